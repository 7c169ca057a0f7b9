/-
  StD4, PnD, StV2.
-/
import Derived.Test.YtoipmnikdiogcaaGreatDoorYHA
set_option maxHeartbeats 64000000
namespace Go.Proofs.YtoipmnikdiogcaaGreatDoor
open Go Go.RowKit
open Go.Proofs.Tryz
abbrev xCa:Pl:=(po [0,1,2] (.ef 3 [] .nil))
section
variable {W:World}
theorem yS3 (s:zB) (hl:s.length≤1000000) (h:yG2 s=none) :Ct prog W 180 [strV s] [] (fun x:Option Addr × Nat × Nat=>.tuple #[.slice x.1 x.2.1 x.2.2,.bool false]) (fun _=>[]):=by
 have w0:IntKind.u64.wrap ((s.length:Nat):Int)=((s.length:Nat):Int):=yAx _ zO;have cu:=yGt (W:=W) (s:=s) (a:=0) zO zO _ rfl;rw [zLo] at cu;unfold yG2 at h;cases hq:ru s with
 |bad e=>
  rw [hq] at cu;have he:=yDB hq;have z1:rdN (.bad e)=0:=rfl;have z2:rdE (.bad e:Rd Nat)=e:=rfl;have z3:rdL (.bad e)=0:=rfl;rw [z1,z2,z3] at cu;have qe:decide (((e:Nat):Int)≠0)=true:=zY zO;refine zE func180 ntmps180 fun R=>?_;repeat' (first|refine xqa ?_|refine xsf ?_ ?_|intro _)
  all_goals (exact xdn (none,0,0))
 |ok n t=>
  rw [hq] at h cu;simp only at h;have ht:=yDs (s:=s) (a:=0) (by rw [zLo];exact hq);have hf:=yEL (s:=s) (a:=0) (by rw [zLo];exact hq);have hn64:=(yHV hq).2;have z1:rdN (.ok n t)=n:=rfl;have z2:rdE (.ok n t)=0:=rfl;have z3:rdL (.ok n t)=(vu n).length:=rfl;rw [z1,z2,z3] at cu;obtain ⟨a0,gi⟩:∃ x,x=0+(vu n).length:=⟨_,rfl⟩;rw [← gi] at cu ht hf;clear gi z1 z2 z3 hq;by_cases kD:n≤s.length;rotate_left
  ·have qg:decide (((s.length:Nat):Int)<((n:Nat):Int))=true:=zY zO;refine zE func180 ntmps180 fun R=>?_;repeat' (first|refine yAu ?_;refine yAa (yAg rfl w0) ?_|refine znf ?_|refine xqa ?_|refine xsf ?_ ?_|intro _)
   all_goals (exact xdn (none,0,0))
  rw [if_pos kD,ht] at h;have qg:decide (((s.length:Nat):Int)<((n:Nat):Int))=false:=zZ zO;have w1:IntKind.i64.wrap ((n:Nat):Int)=((n:Nat):Int):=yDa _ zO;refine zE func180 ntmps180 fun R=>?_;refine KJ.nilrow 64 2 ?_;repeat' (first|refine yAu ?_;refine yAa (yAg rfl w0) ?_|refine znf ?_|refine xqa ?_|refine xsf ?_ ?_|intro _)
  refine yAC (fun x:{x:Nat × Nat × zB × Rows × Option Addr × Nat//x.1≤n∧x.2.1≤s.length∧x.2.2.2.1.length=x.1∧(∀ y,x.2.2.2.1[x.1-1]? = some y→y.1=x.2.2.1)∧yOx s.length (n-x.1) (decide (x.1=0)) x.2.2.1 (s.drop x.2.1)=none}=>[(0,strV s),(4,.int .u64 (n:Nat)),(5,zi (x.1.2.1:Nat)),(7,.slice x.1.2.2.2.2.1 x.1.2.2.2.1.length x.1.2.2.2.2.2),(8,zi (x.1.1:Nat))])
   (fun x=>[lsP rC 64 2 (.slice x.1.2.2.2.2.1 x.1.2.2.2.1.length x.1.2.2.2.2.2) x.1.2.2.2.1]++R) (fun x=>n-x.1.1) ⟨(0,a0,[],[],none,0),zLA _,hf,rfl,fun y hy=>by simp at hy,h⟩ xB (xN) (fun ⟨(i,a,last,T,xa,xc),hi,ha,iq,bg,hgo⟩=>?_)
  dsimp only at hi ha iq bg hgo ⊢;clear h hf cu ht;by_cases hlt:i<n;rotate_left
  ·have ql:decide ((i:Int)<(n:Nat))=false:=zZ zO;obtain rfl:i=n:=zO;rw [Nat.sub_self] at hgo;have hlt:a<s.length:=by
    unfold yOx at hgo;split at hgo
    ·cases hgo
    ·rename_i ao;rcases Nat.lt_or_ge a s.length with h|h
     ·exact h
     ·exact absurd (List.drop_eq_nil_of_le h) ao
   have qe:decide (((a:Nat):Int)=((s.length:Nat):Int))=false:=zZ zO;repeat' (first|refine xqa ?_|refine xsf ?_ ?_|intro _)
   all_goals (exact xdn (xa,T.length,xc))
  have ql:decide ((i:Int)<(n:Nat))=true:=zY zO;obtain ⟨k,hk⟩:∃ k,n-i=k+1:=⟨n-i-1,zO⟩;rw [hk] at hgo;have eH:k=n-(i+1):=zO;unfold yOx at hgo;have dP:=yIp (W:=W) (s:=s) (a:=a) s.length zO zO zO _ rfl;cases h1:rtx s.length (s.drop a) with
  |bad e=>
   rw [h1] at dP;have he:=yES h1;have z1:rdS (.bad e)=[]:=rfl;have z2:rdE (.bad e:Rd zB)=e:=rfl;have z3:rdT (.bad e)=0:=rfl;rw [z1,z2,z3] at dP;have qe:decide (((e:Nat):Int)≠0)=true:=zY zO;repeat' (first|refine xqa ?_|refine xsf ?_ ?_|intro _)
   all_goals (exact xdn (none,0,0))
  |ok key t1=>
   rw [h1] at hgo dP;simp only at hgo;have ht1:=yD9 h1;have iT:=yFD h1;have z1:rdS (.ok key t1)=key:=rfl;have z2:rdE (.ok key t1)=0:=rfl;have z3:rdT (.ok key t1)=(tx key).length:=rfl;rw [z1,z2,z3] at dP;obtain ⟨a1,bi⟩:∃ x,x=a+(tx key).length:=⟨_,rfl⟩;rw [← bi] at dP ht1 iT;rw [ht1] at hgo;clear bi z1 z2 z3 ht1 h1;have de:=yIp (W:=W) (s:=s) (a:=a1) s.length zO zO zO _ rfl;by_cases h0:i=0
   ·have q0:decide ((0:Int)<((i:Nat):Int))=false:=zZ zO;cases h2:rtx s.length (s.drop a1) with
    |bad e=>
     rw [h2] at de;have he:=yES h2;have z1:rdS (.bad e)=[]:=rfl;have z2:rdE (.bad e:Rd zB)=e:=rfl;have z3:rdT (.bad e)=0:=rfl;rw [z1,z2,z3] at de;have qe:decide (((e:Nat):Int)≠0)=true:=zY zO;repeat' (first|refine znf ?_|refine xqa ?_|refine xsf ?_ ?_|intro _)
     all_goals (exact xdn (none,0,0))
    |ok val t2=>
     rw [h2] at hgo de;simp only at hgo;have fR:=yD9 h2;have dW:=yFD h2;have z1:rdS (.ok val t2)=val:=rfl;have z2:rdE (.ok val t2)=0:=rfl;have z3:rdT (.ok val t2)=(tx val).length:=rfl;rw [z1,z2,z3] at de;obtain ⟨a2,bx⟩:∃ x,x=a1+(tx val).length:=⟨_,rfl⟩;rw [← bx] at de fR dW;rw [fR,if_pos (.inl (zY h0))] at hgo;clear bx z1 z2 z3 fR h2;have ed:yOx s.length (n-(i+1)) (decide (i+1=0)) key (s.drop a2)=none:=by
      rw [← eH,zZ zO];split at hgo
      ·assumption
      ·cases hgo
     have m1:(T.length+1)*32≤140737488355328:=zO;have m2:T.length+1≤9223372036854775807:=zO;have iY:(T++[(key,val)]).length=i+1:=by rw [zLa,iq];rfl
     have eU:∀ y,(T++[(key,val)])[i+1-1]? = some y→y.1=key:=fun y hy=>by rw [Nat.add_sub_cancel,← iq,zLn (Nat.le_refl _),Nat.sub_self] at hy;cases hy;rfl
     repeat' (first|refine yAQ ?_;refine yBm (l:=T) (a:=(key,val)) yBp rfl rfl rfl xS xS m1 m2 rfl (fun g' c'=>?_)|refine yAD ?_;refine yAK rfl xF (by rfl) zO rfl (fun gb=>?_);show KJ W _ _ _ (yAj gb (rC (key,val)) 64::_)|refine zad (i+1) ?_|refine znf ?_|refine xqa ?_|refine xsf ?_ ?_|intro _)
     all_goals refine yAs ⟨(i+1,a2,key,T++[(key,val)],_,_),hlt,dW,iY,eU,ed⟩ (by show n-(i+1)<n-i;omega) xB (xN)
   have q0:decide ((0:Int)<((i:Nat):Int))=true:=zY zO;obtain ⟨y,hy⟩:∃ y,T[i-1]? = some y:=⟨_,zLb zO⟩;have hy1:=bg y hy;have dI:Go.RowKit.wrap64 (((i:Nat):Int)-1)=((i-1:Nat):Int):=by unfold Go.RowKit.wrap64;omega
   have aR:(rC y)[0]? = some (strV y.1):=rfl;obtain ⟨qb,hqb⟩:∃ qb,(Op.bytesLess key y.1 || decide (key=y.1))=qb:=⟨_,rfl⟩;have ja:qb=!(Op.bytesLess last key):=by
    rw [← hqb,hy1];cases bS:Op.bytesLess last key with
    |true=>
     have ao:decide (key=last)=false:=zZ (fun e=>by rw [e,yDi] at bS;cases bS);rw [yGb bS,ao];rfl
    |false=>
     by_cases aY:key=last
     ·rw [zY aY];simp
     ·rw [yKl bS (fun e=>aY e.symm)];rfl
   refine KJ.lsSome xS zO (fun gT kw=>?_);subst kw;have hof:0+Int.toNat ((i-1:Nat):Int)*2+0=(i-1)*2+0:=by rw [zLe];omega
   have hTl2:i-1<T.length:=zO;cases qb with
   |true=>
    repeat' (first|refine yAi ?_;refine yAa (yCV yBp rfl xS rfl hof hy aR) ?_|refine yCj ?_;refine yAa (yJF rfl rfl dI) ?_|refine znf ?_|refine xqa ?_|refine xsf ?_ ?_|intro _)
    all_goals (exact xdn (none,0,0))
   |false=>
    have bS:Op.bytesLess last key=true:=by
     cases h9:Op.bytesLess last key with
     |true=>rfl
     |false=>rw [h9] at ja;cases ja
    cases h2:rtx s.length (s.drop a1) with
    |bad e=>
     rw [h2] at de;have he:=yES h2;have z1:rdS (.bad e)=[]:=rfl;have z2:rdE (.bad e:Rd zB)=e:=rfl;have z3:rdT (.bad e)=0:=rfl;rw [z1,z2,z3] at de;have qe:decide (((e:Nat):Int)≠0)=true:=zY zO;repeat' (first|refine yAi ?_;refine yAa (yCV yBp rfl xS rfl hof hy aR) ?_|refine yCj ?_;refine yAa (yJF rfl rfl dI) ?_|refine znf ?_|refine xqa ?_|refine xsf ?_ ?_|intro _)
     all_goals (exact xdn (none,0,0))
    |ok val t2=>
     rw [h2] at hgo de;simp only at hgo;have fR:=yD9 h2;have dW:=yFD h2;have z1:rdS (.ok val t2)=val:=rfl;have z2:rdE (.ok val t2)=0:=rfl;have z3:rdT (.ok val t2)=(tx val).length:=rfl;rw [z1,z2,z3] at de;obtain ⟨a2,bx⟩:∃ x,x=a1+(tx val).length:=⟨_,rfl⟩;rw [← bx] at de fR dW;rw [fR,if_pos (.inr bS)] at hgo;clear bx z1 z2 z3 fR h2;have ed:yOx s.length (n-(i+1)) (decide (i+1=0)) key (s.drop a2)=none:=by
      rw [← eH,zZ zO];split at hgo
      ·assumption
      ·cases hgo
     have m1:(T.length+1)*32≤140737488355328:=zO;have m2:T.length+1≤9223372036854775807:=zO;have iY:(T++[(key,val)]).length=i+1:=by rw [zLa,iq];rfl
     have eU:∀ y,(T++[(key,val)])[i+1-1]? = some y→y.1=key:=fun y hy=>by rw [Nat.add_sub_cancel,← iq,zLn (Nat.le_refl _),Nat.sub_self] at hy;cases hy;rfl
     repeat' (first|refine yAQ ?_;refine yBm (l:=T) (a:=(key,val)) yBp rfl rfl rfl xS xS m1 m2 rfl (fun g' c'=>?_)|refine yAD ?_;refine yAK rfl xF (by rfl) zO rfl (fun gb=>?_);show KJ W _ _ _ (yAj gb (rC (key,val)) 64::_)|refine yAi ?_;refine yAa (yCV yBp rfl xS rfl hof hy aR) ?_|refine zad (i+1) ?_|refine yCj ?_;refine yAa (yJF rfl rfl dI) ?_|refine znf ?_|refine xqa ?_|refine xsf ?_ ?_|intro _)
     all_goals refine yAs ⟨(i+1,a2,key,T++[(key,val)],_,_),hlt,dW,iY,eU,ed⟩ (by show n-(i+1)<n-i;omega) xB (xN)
end
def yOE (b:Array Nat) (ops:Array Oper) (i:Nat):Pl→List Nat→List Nat→Bool
 |.nil,wk,_=>yND b ops wk [i] && yNC ops wk i
 |.op j p,wk,U=>yNC ops wk j && xA0 b ops j && yOE b ops i p (j::wk) (j::U)
 |_,_,_=>false
def yZa (l:List Oper) (i:Nat) (p:Pl):Bool:=yMv l.toArray && yOE (yMu l) l.toArray i p [] []
def xDf (P:Program) (W:World) (n:Nat) (q:QQ) (o:Oper):Act→World→Prop:=fun a w=>
 ∃ f args,(execOp a.eval o).run P w=.ok (.enter f args) w∧Calls P f args w fun e w'=>∃ ch H',e=.panicked ch∧Sta W H' a w'∧KJ W n (.ex q (.panic ch)) [] H'
section
variable {P:Program} {W:World} {n:Nat} {ops:Array Oper} {q:QQ}
theorem FPn.sound {o:Oper} {i:Nat} (hoi:ops[i]? = some o) (hg:o.guard=none) (hnd:∀ c,o.op≠.defer c) (hB:yMv ops=true) {bb:Array Nat} (d6:yI7 ops bb):∀ (p:Pl) (wk U:List Nat) (E:Env) (H:List SP),yOE bb ops i p wk U=true→WkOk ops wk→FJ P W n ops (.raw (xDf P W n q o)) p E H→∀ fuel listed a a' w,FInv (fun l=>l) bb P W n ops wk U E H fuel listed a a' w→wpAnyIn (fen q.ro) 0 P .any ops q.den fuel listed a w:=by
 intro p
 induction p with
 |nil=>
  intro wk U E H hp _ h;simp only [yOE,zLw] at hp;have ip:=yF4 hp.2;refine yWE (k:=.raw fun a w=>q.den .normal a w) hB d6 [i] hp.1 (fun e he=>by rcases List.mem_singleton.1 he with rfl;exact ip) ?_ (fun h=>by cases h) (fun _ _ h=>h);intro e he fuel listed a a' w I hr;rcases List.mem_singleton.1 he with rfl;obtain ⟨hex,-⟩:=I.vir.sees I.closed d6 I.own hoi hr ((yCK hB).1 _ o · · hoi);unfold wpOpIn;simp only [hoi];rw [if_pos (by simp [Region.wanted,hg])];obtain ⟨f,args,av,hc⟩:=h.go a' w I.hd I.st;refine ⟨fun _ _=>trivial,?_⟩;rw [Oper.semAt_eq _ _ _ hnd,hex,av];refine ⟨fun e=>by simp at e,?_⟩;refine (callsIn_wide (n:=0)).2 (hc.mono ?_)
  rintro e' w' ⟨ch,H',rfl,st',hk⟩
  obtain ⟨v1,v2,-⟩:=I.vir;refine hk.go a w' ⟨by rw [v2];exact I.hd.size,fun t v e=>by cases e⟩ ?_;show St W (H'++dm a.defers) w';rw [v1];exact st'
 |op j p ih=>
  intro wk U E H hp et h;simp only [yOE,zLw] at hp;obtain ⟨⟨bQ,aA⟩,hp⟩:=hp;obtain ⟨oj,v,ho,gY,hq,hF⟩:=h;intro fuel listed a a' w I;have ip:=yF4 bQ;have dJ:¬ listed.getD j false=true:=fun hl=>ip.1 (I.sub j hl);refine ih (j::wk) (j::U) (Env.put E oj.dst v) H hp (et.cons bQ) hF fuel listed a (a'.put oj.dst v) w ⟨I.size,I.closed,I.cnt,fun k hk=>by simp [I.sub k hk],fun k hk=>?_,fun u hu=>?_,fun u hu=>?_,I.hd.put gY v,?_,(by show St W (H++dm (a'.put oj.dst v).defers) w;rw [yB9];exact I.st),?_⟩
  ·rcases zLm.1 hk with e|e
   ·right;simp [e]
   ·exact (I.cov k e).imp id (fun q=>by simp [q])
  ·rcases zLm.1 hu with e|e
   ·simp [e]
   ·simp [I.uwk u e]
  ·rcases zLm.1 hu with e|e
   ·rw [e];exact aA
   ·exact I.own u e
  ·refine Rech.of fun u hu=>?_;have eC:∀ ou,ops[u]? = some ou→∀ tt,oj.dst=some tt→tt ∉ ou.looksAt ops:=by
    intro ou cy tt htt hm;rcases (yHB d6 aA ho htt cy).2 with h1|h1
    ·exact h1 hm
    ·rcases zLm.1 hu with e|e
     ·subst e;have:=yTM hB h1;omega
     ·exact ip.1 (et.path h1 (I.uwk u e))
   rcases zLm.1 hu with e|e
   ·subst e;refine ⟨oj,ho,v,fun d hd=>by rw [hd];exact Env.at_self _ _ _,hq.put (eC oj ho) ((yCK hB).1 _ oj · · ho)⟩
   ·obtain ⟨ou,cy,vu,hvu,hqu⟩:=I.rech.get u e;refine ⟨ou,cy,vu,fun d hd=>?_,hqu.put (eC ou cy) ((yCK hB).1 _ ou · · cy)⟩;have ao:oj.dst≠some d:=by
     rcases (yHB d6 (I.own u e) cy hd ho).1 with h1|h1
     ·subst h1;exact absurd (I.uwk u e) ip.1
     ·exact h1
    cases hod:oj.dst with
    |none=>exact hvu d hd
    |some d'=>
     show Env.at ((d',v)::E) d=_;rw [Env.at_cons,if_neg (fun h=>ao (by rw [hod,h]))];exact hvu d hd
  ·obtain ⟨v1,v2,v3⟩:=I.vir;refine ⟨by cases hd:oj.dst <;> simpa [Act.put,hd] using v1,by cases hd:oj.dst <;> simpa [Act.put,hd] using v2,fun tt=>?_⟩;by_cases htt:oj.dst=some tt
   ·exact .inr ⟨j,by simp,yHC dJ,oj,ho,htt⟩
   ·have he:(a'.put oj.dst v).tmps[tt]? = a'.tmps[tt]?:=by
     cases hd:oj.dst with
     |none=>rfl
     |some d=>
      have:d≠tt:=fun e=>htt (by rw [hd,e]);simp [Act.put,zLx this]
    rw [he];exact (v3 tt).imp id fun ⟨u,hu,r⟩=>⟨u,by simp [hu],r⟩
 |ef i' U' p _=>intro wk U E H hp;cases hp
 |alt x y _ _=>intro wk U E H hp;cases hp
theorem yI0 {id:Nat} {l:List Oper} {E:Env} {H:List SP} (i:Nat) (p:Pl) {d:Option Tmp} {c:Call} {ty:TypeId} {pos:String} {af:Array Edge} (hm:P.follows .mixedOrders=true) (ho:l.toArray[i]? = some ⟨d,.call c,ty,pos,af,none⟩) (hB:yZa l i p=true) (h:FW P W n l.toArray (.raw (xDf P W n q ⟨d,.call c,ty,pos,af,none⟩)) p E H):KJ W n (.code P (Code.region id l.toArray true) q) E H:=by
 simp only [yZa,zLw] at hB;refine ⟨fun a w hd st=>wpIn_region_any hm ?_⟩;refine FPn.sound ho rfl (fun c e=>by cases e) hB.1 (yJZ l) p [] [] E H hB.2 (fun k hk=>by cases hk) h.go _ _ _ a _ ⟨by simp,fun k o _ hl=>(by rw [getD_replicate_false] at hl;cases hl),?_,fun k hk=>(by rw [getD_replicate_false] at hk;cases hk),fun k hk=>(by cases hk),fun u hu=>(by cases hu),fun u hu=>(by cases hu),hd,.nil,st.drawn _,rfl,rfl,fun t=>.inl rfl⟩;rw [Array.toList_replicate,yHD];exact Nat.le_refl _
theorem yNl {X:Type} {E:Env} {H R:List SP} {f:FuncId} {xs:List Operand} {ts:Array TypeId} {vs:List Value} {Hpre:List SP} {r:X→Value} {Hp:X→List SP} {d:Option Tmp} {ty:TypeId} {pos:String} {af:Array Edge} (hx:Evs E xs vs) [hf:FnIs P f] (hc:Pn P W f vs Hpre r Hp) (hp:Pick Hpre H R) (h:∀ c,KJ W n (.ex q (.panic (pnc (r c)))) [] (Hp c++R)):KJ W n (.raw (xDf P W n q ⟨d,.call { callee:=.value (.func f),args:=xs.toArray,argTypes:=ts },ty,pos,af,none⟩)) E H:=by
 refine ⟨fun a w p s=>?_⟩;have s2:St W (Hpre++(R++dm a.defers)) w:=by rw [← zLd];exact s.perm (hp.perm.append_right _)
 refine ⟨f,vs.toArray,yHz rfl hx p w,(hc.go _ w s2).mono ?_⟩
 rintro e w' ⟨c,rfl,hS⟩
 exact ⟨_,_,rfl,(by show St W ((Hp c++R)++dm a.defers) w';rw [zLd];exact hS),h c⟩
end
section
variable {W:World} {F:Nat→Addr}
theorem yEx (e:Nat) (he:e≠0):Pn prog W 95 [.bool false,yAy F e] [] (fun _:Unit=>brk F e) (fun _=>[]):=by
 obtain ⟨ea,bT⟩:=yDf (E:=F) he;unfold brk;rw [bT];refine Pn.enter func95 rfl ntmps95 zW (fun R=>?_);repeat' (first|refine yQ7 rfl rfl ?_|refine KJ.pnSeq ?_|refine KJ.pnThn ?_|refine KJ.pnBlk ?_|refine xst ?_|refine xsf ?_ ?_|intro _)
 all_goals exact yBR () rfl (xN)
theorem yCb (hE:ErrsAt W F) (e:Nat) (h1:1≤e) (h2:e≤37) (bB:e≠12):Pn prog W 92 [yAy F e] [] (fun _:Unit=>brk F 15) (fun _=>[]):=by
 have hA:=hE.all;have dV:W.cell? ⟨2,0,none⟩=some (yAy F 12):=hA.at_ 12 zX;have dz:W.cell? ⟨6,0,none⟩=some (yAy F 15):=hA.at_ 15 zX;have ao:=yH7 (F:=F) (e:=e) zO;have hm:e ∈ List.range' 1 37:=by rw [List.mem_range'_1];omega
 have cu:=yEx (W:=W) (F:=F) 15 zO;refine Pn.enter func92 rfl ntmps92 zW (fun R=>?_);repeat' (first|refine yEo (id:=1) ?_;refine yDw ?_|refine yAo ?_;refine yAa (yUt (a:=e) (b:=12) hA rfl rfl (.inr hm) zX (zY bB)) ?_|refine xqa ?_|refine xsf ?_ ?_|refine xdr 1 xCa ?_|apply zN|intro _)
 refine Hold.mk ?_;refine yI0 3 (po [0,1,2] .nil) zK rfl zK ?_;refine yB8 rfl (yFo (yIx rfl) rfl ?_);refine yB8 rfl (yFo (yJR rfl ao) rfl ?_);refine yB8 rfl (yFo (yAm rfl dz) rfl ?_);refine yQw (yNl xE cu xP (fun _=>?_));refine KJ.pnSeq ?_;exact yBR () rfl (xN)
theorem yS4 (hE:ErrsAt W F) (s:zB) (hl:s.length≤144115188075855872) (h:yG2 s=none) :Pn prog W 97 [strV s] [] (fun _:Unit=>brk F 15) (fun _=>[]):=by
 have aq:ErrsOn L16 W F:=hE.to16;have e1:W.cell? ⟨9,0,none⟩=some (yAy F 1):=aq.at_ 1 zX;have e2:W.cell? ⟨10,0,none⟩=some (yAy F 2):=aq.at_ 2 zX;have e3:W.cell? ⟨11,0,none⟩=some (yAy F 3):=aq.at_ 3 zX;have e5:W.cell? ⟨13,0,none⟩=some (yAy F 5):=aq.at_ 5 zX;have dz:W.cell? ⟨6,0,none⟩=some (yAy F 15):=aq.at_ 15 zX;have cc:=yCY (W:=W) aq;have jM:=yC5 (W:=W) (yAy F 15);have cup15:=yEx (W:=W) (F:=F) 15 zO;have ct:=yPR (W:=W);have bC:=yDK (W:=W) s;have cup:=fun g=>yDM (W:=W) (F:=F) (p:=g) (s:=s) (a:=0) s.length zO zO zO e1 e2 e3 (ru s) rfl;unfold yG2 at h;by_cases hue:yHx s.length (ru s)=0;rotate_left
 ·have kO:1≤yHx s.length (ru s)∧yHx s.length (ru s)≤3:=by
   cases hq:ru s with
   |bad e=>
    have:=yDB hq;show 1≤e∧e≤3;omega
   |ok x t=>
    rw [hq] at hue;have e:yHx s.length (.ok x t)=if s.length<x then 3 else 0:=rfl
    rw [e] at hue ⊢;split <;> rename_i h0
    ·omega
    ·rw [if_neg h0] at hue;exact absurd rfl hue
  obtain ⟨ee,iE⟩:∃ ee,ee=yHx s.length (ru s):=⟨_,rfl⟩;obtain ⟨nn,dc⟩:∃ nn,nn=yOU s.length (ru s):=⟨_,rfl⟩;obtain ⟨ll,bS⟩:∃ ll,ll=0+yOV s.length (ru s):=⟨_,rfl⟩;rw [← iE] at kO;simp only [← iE,← dc,← bS] at cup;have fF:=yCb hE ee zO zO zO;clear iE dc bS hue h;refine Pn.enter func97 rfl ntmps97 zW (fun R=>?_);repeat' (first|refine yCy rfl xE fF xP (fun _=>?_)|refine KJ.pnSeq ?_|refine KJ.pnThn ?_|refine KJ.pnBlk ?_|refine xca (cup _) fun _=>?_|refine xca bC fun g=>?_|refine xst ?_|refine xsf ?_ ?_|intro _)
  all_goals exact yBR () rfl (xN)
 obtain ⟨n,t,hq⟩:∃ n t,ru s=.ok n t:=by
  cases hq:ru s with
  |bad e=>
   rw [hq] at hue;have he:e=0:=hue;have:=yDB hq;omega
  |ok n t=>exact ⟨n,t,rfl⟩
 have kD:n≤s.length:=by
  rw [hq] at hue;have e:yHx s.length (.ok n t)=if s.length<n then 3 else 0:=rfl
  rw [e] at hue;split at hue <;> omega
 rw [hq] at h cup;simp only at h;rw [if_pos kD] at h;obtain ⟨u2,u1,u3⟩:=yLQ (most:=s.length) (x:=n) (t:=t) zO;rw [u1,u2,u3] at cup;have ht:=yDs (s:=s) (a:=0) (by rw [zLo];exact hq);have hf:=yEL (s:=s) (a:=0) (by rw [zLo];exact hq);rw [ht] at h;obtain ⟨a0,gi⟩:∃ a,a=0+(vu n).length:=⟨_,rfl⟩;rw [← gi] at h hf;simp only [← gi] at cup;clear ht hq u1 u2 u3 gi hue;have j0:=fun g a (ha:a<s.length)=>yDL (W:=W) (F:=F) (p:=g) (s:=s) (a:=a) zO zO e5;have fF:=fun e (h1:1≤e) (h2:e≤7)=>yCb hE e h1 zO zO;refine Pn.enter func97 rfl ntmps97 zW (fun R=>?_);refine KJ.arNil ?_;repeat' (first|(refine yAb ?_;first|refine xca ct fun q=>?_|refine xca cc fun _=>?_|refine xca (cup _) fun _=>?_|refine xca bC fun g=>?_)|refine xst ?_|refine xsf ?_ ?_|intro _)
 refine yAC (fun x:{x:Nat × Nat × zB × List Nd × Option Addr × Int × Rows//x.1≤n∧x.2.1≤s.length∧TbOk x.2.2.2.1 x.2.2.2.2.1 x.2.2.2.2.2.2∧x.2.2.2.2.2.2.length≤x.1∧yOx s.length (n-x.1) (decide (x.1=0)) x.2.2.1 (s.drop x.2.1)=none}=>[(0,strV s),(3,zPp g),(6,zPp q),(7,strV x.1.2.2.1),(24,zi (n:Nat)),(25,zi (x.1.1:Nat))])
  (fun x=>[tbP q x.1.2.2.2.2.1 x.1.2.2.2.2.2.1,arP x.1.2.2.2.1,rdP g s x.1.2.1]++R) (fun x=>n-x.1.1) ⟨(0,a0,[],[],none,0,[]),zLA _,hf,TbOk.nil [],Nat.le_refl _,h⟩ xB (xN) (fun ⟨(i,a,last,N,ta,tb,rw_),hi,ha,hT,du,hgo⟩=>?_)
 dsimp only at hi ha hT du hgo ⊢;clear h hf cup;by_cases hlt:i<n;rotate_left
 ·have ql:decide ((i:Int)<(n:Nat))=false:=zZ zO;obtain rfl:i=n:=zO;rw [Nat.sub_self] at hgo;have hlt:a<s.length:=by
   unfold yOx at hgo;split at hgo
   ·cases hgo
   ·rename_i ao;rcases Nat.lt_or_ge a s.length with h|h
    ·exact h
    ·exact absurd (List.drop_eq_nil_of_le h) ao
  have cd:=j0 g a hlt;rw [if_pos hlt] at cd;have cp5:=fF 5 zO zO;repeat' (first|refine yCy rfl xE cp5 xP (fun _=>?_)|refine KJ.pnSeq ?_|refine KJ.pnThn ?_|refine KJ.pnBlk ?_|refine xca cd fun _=>?_|refine yAh ?_;refine yAa (yAc rfl rfl ql) ?_|refine xst ?_|refine xsf ?_ ?_|intro _)
  all_goals exact yBR () rfl (xN)
 have ql:decide ((i:Int)<(n:Nat))=true:=zY zO;obtain ⟨k,hk⟩:∃ k,n-i=k+1:=⟨n-i-1,zO⟩;rw [hk] at hgo;have eH:k=n-(i+1):=zO;unfold yOx at hgo;have dP:=yEb (W:=W) (F:=F) (p:=g) (s:=s) (a:=a) s.length zO zO zO e1 e2 e3 _ rfl;cases h1:rtx s.length (s.drop a) with
 |bad e=>
  rw [h1] at dP;have he:=yES h1;have ix:=fF e zO zO;have z1:rdS (.bad e)=[]:=rfl;have z2:rdE (.bad e:Rd zB)=e:=rfl;rw [z1,z2] at dP;repeat' (first|refine yCy rfl xE ix xP (fun _=>?_)|refine KJ.pnSeq ?_|refine KJ.pnThn ?_|refine KJ.pnBlk ?_|refine xca dP fun _=>?_|refine yAh ?_;refine yAa (yAc rfl rfl ql) ?_|refine xst ?_|refine xsf ?_ ?_|intro _)
  all_goals exact yBR () rfl (xN)
 |ok key t1=>
  rw [h1] at hgo dP;simp only at hgo;have ht1:=yD9 h1;have iT:=yFD h1;have z1:rdS (.ok key t1)=key:=rfl;have z2:rdE (.ok key t1)=0:=rfl;have z3:rdT (.ok key t1)=(tx key).length:=rfl;rw [z1,z2,z3] at dP;have hz:yAy F 0=.nilIface:=rfl;rw [hz] at dP;obtain ⟨a1,bi⟩:∃ x,x=a+(tx key).length:=⟨_,rfl⟩;rw [← bi] at dP ht1 iT;rw [ht1] at hgo;clear bi z1 z2 z3;have de:=yEb (W:=W) (F:=F) (p:=g) (s:=s) (a:=a1) s.length zO zO zO e1 e2 e3 _ rfl;cases h2:rtx s.length (s.drop a1) with
  |bad e=>
   rw [h2] at de;have he:=yES h2;have ix:=fF e zO zO;have z1:rdS (.bad e)=[]:=rfl;have z2:rdE (.bad e:Rd zB)=e:=rfl;rw [z1,z2] at de;repeat' (first|refine yCy rfl xE ix xP (fun _=>?_)|refine KJ.pnSeq ?_|refine KJ.pnThn ?_|refine KJ.pnBlk ?_|refine xca cc fun _=>?_|refine xca de fun _=>?_|refine xca dP fun _=>?_|refine yAh ?_;refine yAa (yAc rfl rfl ql) ?_|refine xst ?_|refine xsf ?_ ?_|intro _)
   all_goals exact yBR () rfl (xN)
  |ok val t2=>
   rw [h2] at hgo de;simp only at hgo;have fR:=yD9 h2;have dW:=yFD h2;have z1:rdS (.ok val t2)=val:=rfl;have z2:rdE (.ok val t2)=0:=rfl;have z3:rdT (.ok val t2)=(tx val).length:=rfl;rw [z1,z2,z3,hz] at de;obtain ⟨a2,bx⟩:∃ x,x=a1+(tx val).length:=⟨_,rfl⟩;rw [← bx] at de fR dW;rw [fR] at hgo;clear bx z1 z2 z3;have iA:=yPT (W:=W) (p:=q) (b:=tb) (k:=key) (v:=val) hT zO;have bk:=yM4 rw_ key val;obtain ⟨rw2,hrw⟩:∃ x,x=yHW rw_ key val:=⟨_,rfl⟩;rw [← hrw] at iA bk;clear hrw;by_cases h0:i=0
   ·have q0:decide (((i:Nat):Int)=0)=true:=zY zO;rw [if_pos (.inl (zY h0))] at hgo;have ed:yOx s.length (n-(i+1)) (decide (i+1=0)) key (s.drop a2)=none:=by
     rw [← eH,zZ zO];split at hgo
     ·assumption
     ·cases hgo
    repeat' (first|(refine yAb ?_;first|refine xca iA fun y=>?_;obtain ⟨⟨N1,a3,b1⟩,g1,t1⟩:=y;dsimp only at g1 t1 ⊢|refine xca jM fun _=>?_|refine xca cc fun _=>?_|refine xca de fun _=>?_|refine xca dP fun _=>?_)|refine yAi ?_;refine yAa (yAm rfl dz) ?_|refine zad (i+1) ?_|refine yAt ?_;refine yAa (yAe rfl rfl q0) ?_|refine yAh ?_;refine yAa (yAc rfl rfl ql) ?_|refine xst ?_|refine xsf ?_ ?_|intro _)
    all_goals refine yAs ⟨(i+1,a2,key,N1,a3,b1,rw2),hlt,dW,t1,by dsimp only;omega,ed⟩ (by show n-(i+1)<n-i;omega) xB (xN)
   have q0:decide (((i:Nat):Int)=0)=false:=zZ zO;obtain ⟨qb,hqb⟩:∃ qb,(!(Op.bytesLess key last || decide (key=last)))=qb:=⟨_,rfl⟩;have ja:qb=Op.bytesLess last key:=by
    rw [← hqb];cases bS:Op.bytesLess last key with
    |true=>
     have ao:decide (key=last)=false:=zZ (fun e=>by rw [e,yDi] at bS;cases bS);rw [yGb bS,ao];rfl
    |false=>
     by_cases aY:key=last
     ·rw [zY aY];simp
     ·rw [yKl bS (fun e=>aY e.symm)];rfl
   cases qb with
   |true=>
    rw [if_pos (.inr ja.symm)] at hgo;have ed:yOx s.length (n-(i+1)) (decide (i+1=0)) key (s.drop a2)=none:=by
     rw [← eH,zZ zO];split at hgo
     ·assumption
     ·cases hgo
    repeat' (first|(refine yAb ?_;first|refine xca iA fun y=>?_;obtain ⟨⟨N1,a3,b1⟩,g1,t1⟩:=y;dsimp only at g1 t1 ⊢|refine xca jM fun _=>?_|refine xca cc fun _=>?_|refine xca de fun _=>?_|refine xca dP fun _=>?_)|refine yAi ?_;refine yAa (yAm rfl dz) ?_|refine zad (i+1) ?_|refine yAt ?_;refine yAa (yAe rfl rfl q0) ?_|refine yAh ?_;refine yAa (yAc rfl rfl ql) ?_|refine yAq ?_;refine yAa (yGc rfl rfl hqb) ?_|refine xst ?_|refine xsf ?_ ?_|intro _)
    all_goals refine yAs ⟨(i+1,a2,key,N1,a3,b1,rw2),hlt,dW,t1,by dsimp only;omega,ed⟩ (by show n-(i+1)<n-i;omega) xB (xN)
   |false=>
    repeat' (first|refine yCy rfl xE cup15 xP (fun _=>?_)|refine KJ.pnSeq ?_|refine KJ.pnThn ?_|refine KJ.pnBlk ?_|refine xca cc fun _=>?_|refine xca de fun _=>?_|refine xca dP fun _=>?_|refine yAi ?_;refine yAa (yAm rfl dz) ?_|refine yAt ?_;refine yAa (yAe rfl rfl q0) ?_|refine yAh ?_;refine yAa (yAc rfl rfl ql) ?_|refine yAq ?_;refine yAa (yGc rfl rfl hqb) ?_|refine xst ?_|refine xsf ?_ ?_|intro _)
    all_goals exact yBR () rfl (xN)
end
end Go.Proofs.YtoipmnikdiogcaaGreatDoor
