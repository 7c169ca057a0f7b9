/-
  PnD, StV2, StV3, StV4, StV5.
-/
import Derived.Test.YtlnbkbfblhofbaaGreatDoorVEO
import Derived.Test.YtlnbkbfblhofbaaGreatDoorVHP
set_option maxRecDepth 100000
set_option maxHeartbeats 64000000
namespace Go.Proofs.YtlnbkbfblhofbaaGreatDoor
open Go Go.RowKit
open Go.Proofs.Tryz
abbrev yZR:Pl:=(.op 0 (.op 1 (.op 2 (.ef 3 [] .nil))))
abbrev yEZ:Pl:=(.op 0 (.op 1 (.op 2 (.op 3 (.op 4 (.op 8 (.ef 5 [8,0] (.op 6 (.op 7 (.ef 9 [] .nil))))))))))
abbrev yE0:Pl:=(.op 0 (.op 1 (.op 2 (.op 3 (.op 4 (.op 5 (.op 6 (.op 7 (.op 8 (.op 9 (.op 10 (.op 11 (.op 12 (.op 13 (.op 14 (.op 15 (.op 16 (.op 17 (.op 18 (.op 19 (.ef 20 [] (.op 21 (.op 22 (.op 23 (.op 24 (.op 25 .nil))))))))))))))))))))))))))
abbrev yED:Pl:=(.op 0 (.op 1 (.op 2 (.op 3 (.op 4 (.op 5 (.op 6 (.op 7 (.op 8 (.op 9 (.op 10 (.op 11 (.op 12 (.op 13 (.op 14 (.ef 15 [] (.op 16 (.op 17 (.op 18 (.op 19 (.op 20 .nil)))))))))))))))))))))
abbrev yE1:Pl:=(.op 0 (.op 1 (.op 2 (.op 3 (.op 5 (.op 8 (.ef 4 [8,5] (.ef 6 [8] (.op 7 (.ef 9 [] .nil))))))))))
abbrev yIl:Pl:=(.op 0 (.ef 1 [0] (.ef 2 [] .nil)))
abbrev yPI:Pl:=(.op 0 (.op 1 (.ef 2 [0] (.ef 3 [] (.ef 4 [] .nil)))))
abbrev yZS:Pl:=(.op 0 (.op 1 (.op 2 (.op 3 (.op 4 (.op 5 (.op 6 (.op 7 (.op 8 (.ef 9 [4,3,2,1,0] (.op 10 (.op 11 .nil))))))))))))
abbrev yZT:Pl:=(.op 0 (.op 1 (.op 2 (.op 3 (.op 4 (.op 5 (.op 6 (.op 7 (.op 8 (.op 9 (.op 10 (.op 11 (.op 12 (.op 13 (.op 14 (.op 15 (.op 16 (.op 17 (.op 18 (.op 19 (.ef 20 [] (.op 21 (.op 22 (.op 23 (.op 24 (.op 25 (.op 26 (.op 27 (.op 28 (.ef 29 [27,26,25,24,23] (.ef 30 [] (.op 31 (.op 32 .nil)))))))))))))))))))))))))))))))))
def yNf (b:Array Nat) (ops:Array Oper) (i:Nat):Pl→List Nat→List Nat→Bool
 |.nil,wk,_=>yL9 b ops wk [i] && yL8 ops wk i
 |.op j p,wk,U=>yL8 ops wk j && yYz b ops j && yNf b ops i p (j::wk) (j::U)
 |_,_,_=>false
def yWV (l:List Oper) (i:Nat) (p:Pl):Bool:=yK0 l.toArray && yNf (yKZ l) l.toArray i p [] []
def xAG (P:Program) (W:World) (n:Nat) (q:QQ) (o:Oper):Act→World→Prop:=fun a w=>
 ∃ f args,(execOp a.eval o).run P w=.ok (.enter f args) w∧Calls P f args w fun e w'=>∃ ch H',e=.panicked ch∧Sta W H' a w'∧KJ W n (.ex q (.panic ch)) [] H'
section
variable {P:Program} {W:World} {n:Nat} {ops:Array Oper} {q:QQ}
theorem FPn.sound {o:Oper} {i:Nat} (hoi:ops[i]? = some o) (hg:o.guard=none) (hnd:∀ c,o.op≠.defer c) (hB:yK0 ops=true) {bb:Array Nat} (hbb:yH4 ops bb):∀ (p:Pl) (wk U:List Nat) (E:Env) (H:List SP),yNf bb ops i p wk U=true→WkOk ops wk→FJ P W n ops (.raw (xAG P W n q o)) p E H→
 ∀ fuel listed a a' w,FInv (fun l=>l) bb P W n ops wk U E H fuel listed a a' w→wpAnyIn (fen q.ro) 0 P .any ops q.den fuel listed a w:=by
 intro p
 induction p with
 |nil=>
  intro wk U E H hp _ h
  simp only [yNf,zLw] at hp
  have hni:=yFf hp.2
  refine yUr (k:=.raw fun a w=>q.den .normal a w) hB hbb [i] hp.1 (fun e he=>by rcases List.mem_singleton.1 he with rfl;exact hni) ?_ (fun h=>by cases h) (fun _ _ h=>h)
  intro e he fuel listed a a' w I hr
  rcases List.mem_singleton.1 he with rfl
  obtain ⟨hex,-⟩:=I.vir.sees I.closed hbb I.own hoi hr ((yCd hB).1 _ o · · hoi)
  unfold wpOpIn
  simp only [hoi]
  rw [if_pos (by simp [Region.wanted,hg])]
  obtain ⟨f,args,hrun,hc⟩:=h.go a' w I.hd I.st
  refine ⟨fun _ _=>trivial,?_⟩
  rw [Oper.semAt_eq _ _ _ hnd,hex,hrun]
  refine ⟨fun e=>by simp at e,?_⟩
  refine (callsIn_wide (n:=0)).2 (hc.mono ?_)
  rintro e' w' ⟨ch,H',rfl,st',hk⟩
  obtain ⟨v1,v2,-⟩:=I.vir
  refine hk.go a w' ⟨by rw [v2];exact I.hd.size,fun t v e=>by cases e⟩ ?_
  show St W (H'++dm a.defers) w'
  rw [v1]
  exact st'
 |op j p ih=>
  intro wk U E H hp hwk h
  simp only [yNf,zLw] at hp
  obtain ⟨⟨hdeps,hown⟩,hp⟩:=hp
  obtain ⟨oj,v,ho,hdst,hq,hF⟩:=h
  intro fuel listed a a' w I
  have hni:=yFf hdeps
  have hnl:¬ listed.getD j false=true:=fun hl=>hni.1 (I.sub j hl)
  refine ih (j::wk) (j::U) (Env.put E oj.dst v) H hp (hwk.cons hdeps) hF fuel listed a (a'.put oj.dst v) w ⟨I.size,I.closed,I.cnt,fun k hk=>by simp [I.sub k hk],fun k hk=>?_,fun u hu=>?_,fun u hu=>?_,I.hd.put hdst v,?_,(by show St W (H++dm (a'.put oj.dst v).defers) w;rw [yBE];exact I.st),?_⟩
  ·rcases zLm.1 hk with e|e
   ·right;simp [e]
   ·exact (I.cov k e).imp id (fun q=>by simp [q])
  ·rcases zLm.1 hu with e|e
   ·simp [e]
   ·simp [I.uwk u e]
  ·rcases zLm.1 hu with e|e
   ·rw [e];exact hown
   ·exact I.own u e
  ·refine Rech.of fun u hu=>?_
   have hlook:∀ ou,ops[u]? = some ou→∀ tt,oj.dst=some tt→tt ∉ ou.looksAt ops:=by
    intro ou hou tt htt hm
    rcases (yGD hbb hown ho htt hou).2 with h1|h1
    ·exact h1 hm
    ·rcases zLm.1 hu with e|e
     ·subst e
      have:=yRK hB h1
      omega
     ·exact hni.1 (hwk.path h1 (I.uwk u e))
   rcases zLm.1 hu with e|e
   ·subst e
    refine ⟨oj,ho,v,fun d hd=>by rw [hd];exact Env.at_self _ _ _,hq.put (hlook oj ho) ((yCd hB).1 _ oj · · ho)⟩
   ·obtain ⟨ou,hou,vu,hvu,hqu⟩:=I.rech.get u e
    refine ⟨ou,hou,vu,fun d hd=>?_,hqu.put (hlook ou hou) ((yCd hB).1 _ ou · · hou)⟩
    have hne:oj.dst≠some d:=by
     rcases (yGD hbb (I.own u e) hou hd ho).1 with h1|h1
     ·subst h1;exact absurd (I.uwk u e) hni.1
     ·exact h1
    cases hod:oj.dst with
    |none=>exact hvu d hd
    |some d'=>
     show Env.at ((d',v)::E) d=_
     rw [Env.at_cons,if_neg (fun h=>hne (by rw [hod,h]))]
     exact hvu d hd
  ·obtain ⟨v1,v2,v3⟩:=I.vir
   refine ⟨by cases hd:oj.dst <;> simpa [Act.put,hd] using v1,by cases hd:oj.dst <;> simpa [Act.put,hd] using v2,fun tt=>?_⟩
   by_cases htt:oj.dst=some tt
   ·exact .inr ⟨j,by simp,yGE hnl,oj,ho,htt⟩
   ·have he:(a'.put oj.dst v).tmps[tt]? = a'.tmps[tt]?:=by
     cases hd:oj.dst with
     |none=>rfl
     |some d=>
      have:d≠tt:=fun e=>htt (by rw [hd,e])
      simp [Act.put,zLx this]
    rw [he]
    exact (v3 tt).imp id fun ⟨u,hu,r⟩=>⟨u,by simp [hu],r⟩
 |ef i' U' p _=>intro wk U E H hp;cases hp
 |alt x y _ _=>intro wk U E H hp;cases hp
theorem yHY {id:Nat} {l:List Oper} {E:Env} {H:List SP} (i:Nat) (p:Pl) {d:Option Tmp} {c:Call} {ty:TypeId} {pos:String} {af:Array Edge} (hm:P.follows .mixedOrders=true) (ho:l.toArray[i]? = some ⟨d,.call c,ty,pos,af,none⟩) (hB:yWV l i p=true)
 (h:FW P W n l.toArray (.raw (xAG P W n q ⟨d,.call c,ty,pos,af,none⟩)) p E H):KJ W n (.code P (Code.region id l.toArray true) q) E H:=by
 simp only [yWV,zLw] at hB
 refine ⟨fun a w hd st=>wpIn_region_any hm ?_⟩
 refine FPn.sound ho rfl (fun c e=>by cases e) hB.1 (yIQ l) p [] [] E H hB.2 (fun k hk=>by cases hk) h.go _ _ _ a _ ⟨by simp,fun k o _ hl=>(by rw [getD_replicate_false] at hl;cases hl),?_,fun k hk=>(by rw [getD_replicate_false] at hk;cases hk),fun k hk=>(by cases hk),fun u hu=>(by cases hu),fun u hu=>(by cases hu),hd,.nil,st.drawn _,rfl,rfl,fun t=>.inl rfl⟩
 rw [Array.toList_replicate,yGF]
 exact Nat.le_refl _
theorem yLU {X:Type} {E:Env} {H R:List SP} {f:FuncId} {xs:List Operand} {ts:Array TypeId} {vs:List Value} {Hpre:List SP} {r:X→Value} {Hp:X→List SP} {d:Option Tmp} {ty:TypeId} {pos:String} {af:Array Edge} (hx:Evs E xs vs) [hf:FnIs P f] (hc:Pn P W f vs Hpre r Hp) (hp:Pick Hpre H R)
 (h:∀ c,KJ W n (.ex q (.panic (pnc (r c)))) [] (Hp c++R)):KJ W n (.raw (xAG P W n q ⟨d,.call { callee:=.value (.func f),args:=xs.toArray,argTypes:=ts },ty,pos,af,none⟩)) E H:=by
 refine ⟨fun a w p s=>?_⟩
 have s2:St W (Hpre++(R++dm a.defers)) w:=by
  rw [← zLd]
  exact s.perm (hp.perm.append_right _)
 refine ⟨f,vs.toArray,yGB rfl hx p w,(hc.go _ w s2).mono ?_⟩
 rintro e w' ⟨c,rfl,hS⟩
 exact ⟨_,_,rfl,(by show St W ((Hp c++R)++dm a.defers) w';rw [zLd];exact hS),h c⟩
end
section
variable {W:World} {F:Nat→Addr}
theorem yDT (e:Nat) (he:e≠0):Pn prog W 89 [.bool false,yAr F e] [] (fun _:Unit=>brk F e) (fun _=>[]):=by
 obtain ⟨ea,hea⟩:=yCW (E:=F) he
 unfold brk
 rw [hea]
 refine Pn.enter func89 rfl ntmps89 zW (fun R=>?_)
 repeat' (first|refine yPr rfl rfl ?_|refine KJ.pnSeq ?_|refine KJ.pnThn ?_|refine KJ.pnBlk ?_|refine yAB ?_;refine yAa (yAC xV xW) ?_|refine xst ?_|refine xsa ?_;intro _|refine xsb ?_ ?_<;>intro _<;>try omega|refine xsc ?_|fail)
 all_goals exact yBo () rfl (xN)
theorem yBF (hE:ErrsAt W F) (e:Nat) (h1:1≤e) (h2:e≤37) (h12:e≠12):Pn prog W 86 [yAr F e] [] (fun _:Unit=>brk F 15) (fun _=>[]):=by
 have hA:=hE.all
 have e12:W.cell? ⟨2,0,none⟩=some (yAr F 12):=hA.at_ 12 zX
 have e15:W.cell? ⟨17,0,none⟩=some (yAr F 15):=hA.at_ 15 zX
 have hne:=yIs (F:=F) (e:=e) zO
 have hm:e ∈ List.range' 1 37:=by rw [List.mem_range'_1];omega
 have cu:=yDT (W:=W) (F:=F) 15 zO
 refine Pn.enter func86 rfl ntmps86 zW (fun R=>?_)
 repeat' (first|refine ySv (id:=1) ?_;refine yCO ?_|refine yAj ?_;refine yAa (yAn rfl e12) ?_|refine yAa (ySy (a:=e) (b:=12) hA rfl rfl (.inr hm) zX (zY h12)) ?_|refine xst ?_|refine xsa ?_;intro _|refine xsb ?_ ?_<;>intro _<;>try omega|refine xsc ?_|refine xdr 1 yZR ?_|refine xsd ?_ ?_|exact Rech.nil|fail)
 refine Hold.mk ?_
 refine yHY 3 (.op 0 (.op 1 (.op 2 .nil))) zK rfl zK ?_
 refine yBD rfl (yEH (yHt rfl) rfl ?_)
 refine yBD rfl (yEH (yIK rfl hne) rfl ?_)
 refine yBD rfl (yEH (yAn rfl e15) rfl ?_)
 refine yOR (yLU xE cu xP (fun _=>?_))
 refine KJ.pnSeq ?_
 exact yBo () rfl (xN)
theorem yQ9 (hE:ErrsAt W F) (s:List UInt8) (hl:s.length≤144115188075855872) (h:yF0 s=none) :
 Pn prog W 91 [strV s] [] (fun _:Unit=>brk F 15) (fun _=>[]):=by
 have hE16:ErrsOn L16 W F:=hE.to16
 have e1:W.cell? ⟨7,0,none⟩=some (yAr F 1):=hE16.at_ 1 zX
 have e2:W.cell? ⟨8,0,none⟩=some (yAr F 2):=hE16.at_ 2 zX
 have e3:W.cell? ⟨9,0,none⟩=some (yAr F 3):=hE16.at_ 3 zX
 have e5:W.cell? ⟨11,0,none⟩=some (yAr F 5):=hE16.at_ 5 zX
 have e15:W.cell? ⟨17,0,none⟩=some (yAr F 15):=hE16.at_ 15 zX
 have cc:=yCq (W:=W) hE16
 have cun:=yCC (W:=W) (yAr F 15)
 have cup15:=yDT (W:=W) (F:=F) 15 zO
 have ct:=yOj (W:=W)
 have crd:=yDb (W:=W) s
 have cup:=fun g=>yDd (W:=W) (F:=F) (p:=g) (s:=s) (a:=0) s.length zO zO zO e1 e2 e3 (ru s) rfl
 unfold yF0 at h
 by_cases hue:yGy s.length (ru s)=0
 rotate_left
 ·have hue2:1≤yGy s.length (ru s)∧yGy s.length (ru s)≤3:=by
   cases hq:ru s with
   |bad e=>
    have:=yC2 hq
    show 1≤e∧e≤3
    omega
   |ok x t=>
    rw [hq] at hue
    have e:yGy s.length (.ok x t)=if s.length<x then 3 else 0:=rfl
    rw [e] at hue ⊢
    split <;> rename_i h0
    ·omega
    ·rw [if_neg h0] at hue;exact absurd rfl hue
  obtain ⟨ee,hee⟩:∃ ee,ee=yGy s.length (ru s):=⟨_,rfl⟩
  obtain ⟨nn,hnn⟩:∃ nn,nn=yNm s.length (ru s):=⟨_,rfl⟩
  obtain ⟨ll,hll⟩:∃ ll,ll=0+yNn s.length (ru s):=⟨_,rfl⟩
  rw [← hee] at hue2
  simp only [← hee,← hnn,← hll] at cup
  have cpn:=yBF hE ee zO zO zO
  clear hee hnn hll hue h
  refine Pn.enter func91 rfl ntmps91 zW (fun R=>?_)
  repeat' (first|refine yB5 rfl xE cpn xP (fun _=>?_)|refine KJ.pnSeq ?_|refine KJ.pnThn ?_|refine KJ.pnBlk ?_|(refine yAb ?_;first|refine xca (cup _) fun _=>?_|refine xca crd fun g=>?_)|refine xst ?_|refine xsa ?_;intro _|refine xsb ?_ ?_<;>intro _<;>try omega|refine xsc ?_|fail)
  all_goals exact yBo () rfl (xN)
 obtain ⟨n,t,hq⟩:∃ n t,ru s=.ok n t:=by
  cases hq:ru s with
  |bad e=>
   rw [hq] at hue
   have he:e=0:=hue
   have:=yC2 hq
   omega
  |ok n t=>exact ⟨n,t,rfl⟩
 have hns:n≤s.length:=by
  rw [hq] at hue
  have e:yGy s.length (.ok n t)=if s.length<n then 3 else 0:=rfl
  rw [e] at hue
  split at hue <;> omega
 rw [hq] at h cup
 simp only at h
 rw [if_pos hns] at h
 obtain ⟨u2,u1,u3⟩:=yKs (most:=s.length) (x:=n) (t:=t) zO
 rw [u1,u2,u3] at cup
 have ht:=yCX (s:=s) (a:=0) (by rw [zLo];exact hq)
 have hf:=yEc (s:=s) (a:=0) (by rw [zLo];exact hq)
 rw [ht] at h
 obtain ⟨a0,ha0⟩:∃ a,a=0+(vu n).length:=⟨_,rfl⟩
 rw [← ha0] at h hf
 simp only [← ha0] at cup
 clear ht hq u1 u2 u3 ha0 hue
 have cdn:=fun g a (ha:a<s.length)=>yDc (W:=W) (F:=F) (p:=g) (s:=s) (a:=a) zO zO e5
 have cpn:=fun e (h1:1≤e) (h2:e≤7)=>yBF hE e h1 zO zO
 refine Pn.enter func91 rfl ntmps91 zW (fun R=>?_)
 refine KJ.arNil ?_
 repeat' (first|(refine yAb ?_;first|refine xca ct fun q=>?_|refine xca cc fun _=>?_|refine xca (cup _) fun _=>?_|refine xca crd fun g=>?_)|refine xst ?_|refine xsa ?_;intro _|refine xsb ?_ ?_<;>intro _<;>try omega|refine xsc ?_|fail)
 refine yAz (fun x:{x:Nat × Nat × List UInt8 × List Nd × Option Addr × Int × Rows//x.1≤n∧x.2.1≤s.length∧TbOk x.2.2.2.1 x.2.2.2.2.1 x.2.2.2.2.2.2∧x.2.2.2.2.2.2.length≤x.1∧yM6 s.length (n-x.1) (decide (x.1=0)) x.2.2.1 (s.drop x.2.1)=none}=>[(0,strV s),(3,zPp g),(6,zPp q),(7,strV x.1.2.2.1),(24,.int .i64 (n:Nat)),(25,.int .i64 (x.1.1:Nat))])
  (fun x=>[tbP q x.1.2.2.2.2.1 x.1.2.2.2.2.2.1,arP x.1.2.2.2.1,rdP g s x.1.2.1]++R) (fun x=>n-x.1.1) ⟨(0,a0,[],[],none,0,[]),zLA _,hf,TbOk.nil [],Nat.le_refl _,h⟩ xB (xN) (fun ⟨(i,a,last,N,ta,tb,rw_),hi,ha,hT,hrl,hgo⟩=>?_)
 dsimp only at hi ha hT hrl hgo ⊢
 clear h hf cup
 by_cases hlt:i<n
 rotate_left
 ·have ql:decide ((i:Int)<(n:Nat))=false:=zZ zO
  obtain rfl:i=n:=zO
  rw [Nat.sub_self] at hgo
  have hlt:a<s.length:=by
   unfold yM6 at hgo
   split at hgo
   ·cases hgo
   ·rename_i hne
    rcases Nat.lt_or_ge a s.length with h|h
    ·exact h
    ·exact absurd (List.drop_eq_nil_of_le h) hne
  have cd:=cdn g a hlt
  rw [if_pos hlt] at cd
  have cp5:=cpn 5 zO zO
  repeat' (first|refine yB5 rfl xE cp5 xP (fun _=>?_)|refine KJ.pnSeq ?_|refine KJ.pnThn ?_|refine KJ.pnBlk ?_|refine yAb ?_;refine xca cd fun _=>?_|refine yAa (yAc rfl rfl ql) ?_|refine xst ?_|refine xsa ?_;intro _|refine xsb ?_ ?_<;>intro _<;>try omega|refine xsc ?_|fail)
  all_goals exact yBo () rfl (xN)
 have ql:decide ((i:Int)<(n:Nat))=true:=zY zO
 obtain ⟨k,hk⟩:∃ k,n-i=k+1:=⟨n-i-1,zO⟩
 rw [hk] at hgo
 have hk':k=n-(i+1):=zO
 unfold yM6 at hgo
 have cx1:=yDA (W:=W) (F:=F) (p:=g) (s:=s) (a:=a) s.length zO zO zO e1 e2 e3 _ rfl
 cases h1:rtx s.length (s.drop a) with
 |bad e=>
  rw [h1] at cx1
  have he:=yEj h1
  have cp1:=cpn e zO zO
  have z1:rdS (.bad e)=[]:=rfl
  have z2:rdE (.bad e:Rd (List UInt8))=e:=rfl
  rw [z1,z2] at cx1
  repeat' (first|refine yB5 rfl xE cp1 xP (fun _=>?_)|refine KJ.pnSeq ?_|refine KJ.pnThn ?_|refine KJ.pnBlk ?_|refine yAb ?_;refine xca cx1 fun _=>?_|refine yAa (yAc rfl rfl ql) ?_|refine xst ?_|refine xsa ?_;intro _|refine xsb ?_ ?_<;>intro _<;>try omega|refine xsc ?_|fail)
  all_goals exact yBo () rfl (xN)
 |ok key t1=>
  rw [h1] at hgo cx1
  simp only at hgo
  have ht1:=yDy h1
  have hf1:=yES h1
  have z1:rdS (.ok key t1)=key:=rfl
  have z2:rdE (.ok key t1)=0:=rfl
  have z3:rdT (.ok key t1)=(tx key).length:=rfl
  rw [z1,z2,z3] at cx1
  have hz:yAr F 0=.nilIface:=rfl
  rw [hz] at cx1
  obtain ⟨a1,ha1⟩:∃ x,x=a+(tx key).length:=⟨_,rfl⟩
  rw [← ha1] at cx1 ht1 hf1
  rw [ht1] at hgo
  clear ha1 z1 z2 z3
  have cx2:=yDA (W:=W) (F:=F) (p:=g) (s:=s) (a:=a1) s.length zO zO zO e1 e2 e3 _ rfl
  cases h2:rtx s.length (s.drop a1) with
  |bad e=>
   rw [h2] at cx2
   have he:=yEj h2
   have cp1:=cpn e zO zO
   have z1:rdS (.bad e)=[]:=rfl
   have z2:rdE (.bad e:Rd (List UInt8))=e:=rfl
   rw [z1,z2] at cx2
   repeat' (first|refine yB5 rfl xE cp1 xP (fun _=>?_)|refine KJ.pnSeq ?_|refine KJ.pnThn ?_|refine KJ.pnBlk ?_|(refine yAb ?_;first|refine xca cc fun _=>?_|refine xca cx2 fun _=>?_|refine xca cx1 fun _=>?_)|refine yAa (yAc rfl rfl ql) ?_|refine xst ?_|refine xsa ?_;intro _|refine xsb ?_ ?_<;>intro _<;>try omega|refine xsc ?_|fail)
   all_goals exact yBo () rfl (xN)
  |ok val t2=>
   rw [h2] at hgo cx2
   simp only at hgo
   have ht2:=yDy h2
   have hf2:=yES h2
   have z1:rdS (.ok val t2)=val:=rfl
   have z2:rdE (.ok val t2)=0:=rfl
   have z3:rdT (.ok val t2)=(tx val).length:=rfl
   rw [z1,z2,z3,hz] at cx2
   obtain ⟨a2,ha2⟩:∃ x,x=a1+(tx val).length:=⟨_,rfl⟩
   rw [← ha2] at cx2 ht2 hf2
   rw [ht2] at hgo
   clear ha2 z1 z2 z3
   have cpt:=yOl (W:=W) (p:=q) (b:=tb) (k:=key) (v:=val) hT zO
   have hpl:=yIy rw_ key val
   obtain ⟨rw2,hrw⟩:∃ x,x=yE4 rw_ key val:=⟨_,rfl⟩
   rw [← hrw] at cpt hpl
   clear hrw
   by_cases h0:i=0
   ·have q0:decide (((i:Nat):Int)=0)=true:=zY zO
    rw [if_pos (.inl (zY h0))] at hgo
    have hg2:yM6 s.length (n-(i+1)) (decide (i+1=0)) key (s.drop a2)=none:=by
     rw [← hk',zZ zO]
     split at hgo
     ·assumption
     ·cases hgo
    repeat' (first|(refine yAb ?_;first|refine xca cpt fun y=>?_;obtain ⟨⟨N1,a3,b1⟩,g1,t1⟩:=y;dsimp only at g1 t1 ⊢|refine xca cun fun _=>?_|refine xca cc fun _=>?_|refine xca cx2 fun _=>?_|refine xca cx1 fun _=>?_)|refine yAj ?_;refine yAa (yAn rfl e15) ?_|refine yAa (yAd (r:=((i+1:Nat):Int)) rfl rfl zO zO) ?_|refine yAa (yAf rfl rfl q0) ?_|refine yAa (yAc rfl rfl ql) ?_|refine xst ?_|refine xsa ?_;intro _|refine xsb ?_ ?_<;>intro _<;>try omega|refine xsc ?_|fail)
    all_goals refine yAp ⟨(i+1,a2,key,N1,a3,b1,rw2),hlt,hf2,t1,by dsimp only;omega,hg2⟩ (by show n-(i+1)<n-i;omega) xB (xN)
   have q0:decide (((i:Nat):Int)=0)=false:=zZ zO
   obtain ⟨qb,hqb⟩:∃ qb,(!(Op.bytesLess key last || decide (key=last)))=qb:=⟨_,rfl⟩
   have hqb2:qb=Op.bytesLess last key:=by
    rw [← hqb]
    cases hll:Op.bytesLess last key with
    |true=>
     have hne:decide (key=last)=false:=zZ (fun e=>by rw [e,yDg] at hll;cases hll)
     rw [yFi hll,hne];rfl
    |false=>
     by_cases hkl:key=last
     ·rw [zY hkl];simp
     ·rw [yIW hll (fun e=>hkl e.symm)];rfl
   cases qb with
   |true=>
    rw [if_pos (.inr hqb2.symm)] at hgo
    have hg2:yM6 s.length (n-(i+1)) (decide (i+1=0)) key (s.drop a2)=none:=by
     rw [← hk',zZ zO]
     split at hgo
     ·assumption
     ·cases hgo
    repeat' (first|(refine yAb ?_;first|refine xca cpt fun y=>?_;obtain ⟨⟨N1,a3,b1⟩,g1,t1⟩:=y;dsimp only at g1 t1 ⊢|refine xca cun fun _=>?_|refine xca cc fun _=>?_|refine xca cx2 fun _=>?_|refine xca cx1 fun _=>?_)|refine yAj ?_;refine yAa (yAn rfl e15) ?_|refine yAa (yAd (r:=((i+1:Nat):Int)) rfl rfl zO zO) ?_|refine yAa (yAf rfl rfl q0) ?_|refine yAa (yAc rfl rfl ql) ?_|refine yAa (yFk rfl rfl hqb) ?_|refine xst ?_|refine xsa ?_;intro _|refine xsb ?_ ?_<;>intro _<;>try omega|refine xsc ?_|fail)
    all_goals refine yAp ⟨(i+1,a2,key,N1,a3,b1,rw2),hlt,hf2,t1,by dsimp only;omega,hg2⟩ (by show n-(i+1)<n-i;omega) xB (xN)
   |false=>
    repeat' (first|refine yB5 rfl xE cup15 xP (fun _=>?_)|refine KJ.pnSeq ?_|refine KJ.pnThn ?_|refine KJ.pnBlk ?_|(refine yAb ?_;first|refine xca cc fun _=>?_|refine xca cx2 fun _=>?_|refine xca cx1 fun _=>?_)|refine yAj ?_;refine yAa (yAn rfl e15) ?_|refine yAa (yAf rfl rfl q0) ?_|refine yAa (yAc rfl rfl ql) ?_|refine yAa (yFk rfl rfl hqb) ?_|refine xst ?_|refine xsa ?_;intro _|refine xsb ?_ ?_<;>intro _<;>try omega|refine xsc ?_|fail)
    all_goals exact yBo () rfl (xN)
end
section
variable {W:World} {F:Nat→Addr} {s d q n:Nat} {D:Dsk}
theorem yT0 (hE:ErrsAt W F) (hN:NibAt W) (h1:64≤n) (h2:n≤65536) (life:Int) (hDn:D.n=n) (hs0:yA9 D 0=0) (hh:yRh n (234*yAu n) (yBt D 0)=none) :
 Pn prog W 42 [zPp s] [stP s d q n 0 none life false,DiskP d D] (fun _:Unit=>brk F 15) (fun _=>[DiskP d D]):=by
 have hE16:ErrsOn L16 W F:=hE.to16
 have hE8:ErrsOn L8 W F:=hE16.to8
 have e1:W.cell? ⟨7,0,none⟩=some (yAr F 1):=hE16.at_ 1 zX
 have e2:W.cell? ⟨8,0,none⟩=some (yAr F 2):=hE16.at_ 2 zX
 have e3:W.cell? ⟨9,0,none⟩=some (yAr F 3):=hE16.at_ 3 zX
 have e5:W.cell? ⟨11,0,none⟩=some (yAr F 5):=hE16.at_ 5 zX
 have e15:W.cell? ⟨17,0,none⟩=some (yAr F 15):=hE16.at_ 15 zX
 have hA:=yA8 (n:=n) zO
 have cpn:=fun e (h1:1≤e) (h2:e≤7)=>yBF hE e h1 zO zO
 have cp15:=yBF hE 15 zO zO zO
 have cup:=yDT (W:=W) (F:=F) 15 zO
 have cm:=yFv (W:=W)
 have cc:=yCq (W:=W) hE16
 have cun:=yCC (W:=W) (yAr F 15)
 have cro:=fun q v=>yCr (W:=W) (s:=s) (d:=d) (q:=q) (n:=n) v none life false zO
 have csz:CtU prog W 25 [zPp d] [DiskP d D] (.int .i64 (n:Nat)) [DiskP d D]:=by
  have:=yBs (W:=W) (p:=d) (D:=D)
  rw [hDn] at this
  exact this
 have w1:IntKind.u64.wrap ((n:Nat):Int)=((n:Nat):Int):=yAo _ zO
 have qe:decide (((n:Nat):Int)=((n:Nat):Int))=true:=zY rfl
 obtain ⟨hd,hhd⟩:∃ hd,hd=yBt D 0:=⟨_,rfl⟩
 obtain ⟨vv,hvv⟩:∃ vv,vv=yBC D 0:=⟨_,rfl⟩
 have hdl:hd.length≤234:=by rw [hhd];exact yM7 D 0
 have cr:CtU prog W 27 [zPp d,.int .i64 0] [DiskP d D] (.tuple #[strV hd,.int .i64 vv,.nilIface]) [DiskP d D]:=by
  have:=yCE (W:=W) (p:=d) (D:=D) hE8 hN zO 0
  rw [hs0,← hhd,← hvv] at this
  exact this
 rw [← hhd] at hh
 clear hhd hvv hs0
 have crd:=yDb (W:=W) hd
 have cu:=fun g=>yDz (W:=W) (F:=F) (p:=g) (s:=hd) (a:=0) zO zO e1 e2 _ rfl
 simp only [zLo] at cu
 unfold yRh at hh
 cases hq:ru hd with
 |bad e=>
  rw [hq] at cu
  have z1:rdN (.bad e)=0:=rfl
  have z2:rdE (.bad e:Rd Nat)=e:=rfl
  rw [z1,z2] at cu
  have he:=yC2 hq
  have cp1:=cpn e zO zO
  refine Pn.enter func42 rfl ntmps42 zW (fun R=>?_)
  repeat' (first|refine yB5 rfl xE cp1 xP (fun _=>?_)|refine KJ.pnSeq ?_|refine KJ.pnThn ?_|refine KJ.pnBlk ?_|(refine yAb ?_;first|refine xca (cu _) fun _=>?_|refine xca crd fun g=>?_|refine xca cm fun _=>?_|refine xca cr fun _=>?_)|refine xst ?_|refine xsa ?_;intro _|refine xsb ?_ ?_<;>intro _<;>try omega|refine xsc ?_|refine xdr 8 yEZ ?_|refine xdr 9 yE0 ?_|refine xdr 12 yED ?_|refine xdr 21 yE1 ?_|refine xsd ?_ ?_|exact Rech.nil|fail)
  all_goals exact yBo () rfl (xN)
 |ok m t=>
  rw [hq] at hh cu
  simp only at hh
  have ht:=yCX (s:=hd) (a:=0) (by rw [zLo];exact hq)
  have hf:=yEc (s:=hd) (a:=0) (by rw [zLo];exact hq)
  have z1:rdN (.ok m t)=m:=rfl
  have z2:rdE (.ok m t)=0:=rfl
  have z3:rdL (.ok m t)=(vu m).length:=rfl
  have hz:yAr F 0=.nilIface:=rfl
  rw [z1,z2,z3,hz] at cu
  have hm64:=(yGO hq).2
  obtain ⟨a1,ha1⟩:∃ x,x=0+(vu m).length:=⟨_,rfl⟩
  rw [← ha1] at cu ht hf
  rw [ht] at hh
  clear ha1 z1 z2 z3 hq ht
  have cpt:=fun g=>yDd (W:=W) (F:=F) (p:=g) (s:=hd) (a:=a1) (234*yAu n) zO zO zO e1 e2 e3 _ rfl
  obtain ⟨q2,hq2⟩:∃ q2,q2=ru (hd.drop a1):=⟨_,rfl⟩
  rw [← hq2] at hh
  simp only [← hq2] at cpt
  by_cases hue:yGy (234*yAu n) q2=0
  rotate_left
  ·have hue2:1≤yGy (234*yAu n) q2∧yGy (234*yAu n) q2≤3:=by
    cases q2 with
    |bad e=>
     have:=yC2 hq2.symm
     show 1≤e∧e≤3
     omega
    |ok x t=>
     have e:yGy (234*yAu n) (.ok x t)=if 234*yAu n<x then 3 else 0:=rfl
     rw [e] at hue ⊢
     split <;> rename_i h0
     ·omega
     ·rw [if_neg h0] at hue;exact absurd rfl hue
   obtain ⟨ee,hee⟩:∃ ee,ee=yGy (234*yAu n) q2:=⟨_,rfl⟩
   obtain ⟨nn,hnn⟩:∃ nn,nn=yNm (234*yAu n) q2:=⟨_,rfl⟩
   obtain ⟨ll,hll⟩:∃ ll,ll=a1+yNn (234*yAu n) q2:=⟨_,rfl⟩
   rw [← hee] at hue2
   simp only [← hee,← hnn,← hll] at cpt
   have cp1:=cpn ee zO zO
   clear hee hnn hll hue hh
   refine Pn.enter func42 rfl ntmps42 zW (fun R=>?_)
   repeat' (first|refine yB5 rfl xE cp1 xP (fun _=>?_)|refine KJ.pnSeq ?_|refine KJ.pnThn ?_|refine KJ.pnBlk ?_|(refine yAb ?_;first|refine xca (cpt _) fun _=>?_|refine xca (cro _ _) fun _=>?_|refine xca cc fun _=>?_|refine xca (cu _) fun _=>?_|refine xca crd fun g=>?_|refine xca cm fun _=>?_|refine xca cr fun _=>?_)|refine xst ?_|refine xsa ?_;intro _|refine xsb ?_ ?_<;>intro _<;>try omega|refine xsc ?_|refine xdr 8 yEZ ?_|refine xdr 9 yE0 ?_|refine xdr 12 yED ?_|refine xdr 21 yE1 ?_|refine xsd ?_ ?_|exact Rech.nil|fail)
   all_goals exact yBo () rfl (xN)
  cases q2 with
  |bad e=>
   have he:e=0:=hue
   have:=yC2 hq2.symm
   omega
  |ok k u=>
   simp only at hh
   have hkr:¬ 234*yAu n<k:=fun h=>by
    have e:yGy (234*yAu n) (.ok k u)=if 234*yAu n<k then 3 else 0:=rfl
    rw [e,if_pos h] at hue
    cases hue
   obtain ⟨u2,u1,u3⟩:=yKs (most:=234*yAu n) (x:=k) (t:=u) hkr
   have hu:=yCX (s:=hd) (a:=a1) hq2.symm
   have hf2:=yEc (s:=hd) (a:=a1) hq2.symm
   simp only [u1,u2,u3,hz] at cpt
   obtain ⟨a2,ha2⟩:∃ x,x=a1+(vu k).length:=⟨_,rfl⟩
   rw [← ha2] at hf2 hu
   simp only [← ha2] at cpt
   have cd:=fun g=>yDc (W:=W) (F:=F) (p:=g) (s:=hd) (a:=a2) zO zO e5
   clear ha2 u1 u2 u3 hue hq2
   by_cases hlt:a2<hd.length
   ·simp only [if_pos hlt] at cd
    have cp1:=cpn 5 zO zO
    refine Pn.enter func42 rfl ntmps42 zW (fun R=>?_)
    repeat' (first|refine yB5 rfl xE cp1 xP (fun _=>?_)|refine KJ.pnSeq ?_|refine KJ.pnThn ?_|refine KJ.pnBlk ?_|(refine yAb ?_;first|refine xca (cd _) fun _=>?_|refine xca (cpt _) fun _=>?_|refine xca (cro _ _) fun _=>?_|refine xca cc fun _=>?_|refine xca (cu _) fun _=>?_|refine xca crd fun g=>?_|refine xca cm fun _=>?_|refine xca cr fun _=>?_)|refine xst ?_|refine xsa ?_;intro _|refine xsb ?_ ?_<;>intro _<;>try omega|refine xsc ?_|refine xdr 8 yEZ ?_|refine xdr 9 yE0 ?_|refine xdr 12 yED ?_|refine xdr 21 yE1 ?_|refine xsd ?_ ?_|exact Rech.nil|fail)
    all_goals exact yBo () rfl (xN)
   simp only [if_neg hlt,hz] at cd
   have hmn:((m:Nat):Int)≠((n:Nat):Int):=fun h=>by
    rw [if_pos ⟨zO,by rw [hu];exact List.drop_eq_nil_of_le zO,zO⟩] at hh
    cases hh
   have qm:decide (((m:Nat):Int)=((n:Nat):Int))=false:=zZ hmn
   refine Pn.enter func42 rfl ntmps42 zW (fun R=>?_)
   repeat' (first|refine yAw (id:=8) ?_;refine yCO ?_|(refine yAb ?_;first|refine xca (cd _) fun _=>?_|refine xca (cpt _) fun _=>?_|refine xca (cro _ _) fun _=>?_|refine xca cc fun _=>?_|refine xca (cu _) fun _=>?_|refine xca crd fun g=>?_|refine xca cm fun _=>?_|refine xca cr fun _=>?_)|refine xst ?_|refine xsa ?_;intro _|refine xsb ?_ ?_<;>intro _<;>try omega|refine xsc ?_|refine xdr 8 yEZ ?_|refine xdr 9 yE0 ?_|refine xdr 12 yED ?_|refine xdr 21 yE1 ?_|refine xsd ?_ ?_|exact Rech.nil|fail)
   refine Hold.mk ?_
   refine yRl ?_
   refine yHY 9 (.op 0 (.op 1 (.op 2 (.op 3 (.op 4 (.op 5 (.op 6 (.op 7 (.op 8 .nil))))))))) zK rfl zK ?_
   refine yBD rfl (yEH (yHt rfl) rfl ?_)
   refine yBD rfl (yEH (yHt rfl) rfl ?_)
   refine yBD rfl (yEH (yGg rfl) rfl ?_)
   refine yBD rfl (yEH (yKX rfl) rfl ?_)
   refine yBD rfl (yEH (yDm rfl xS (by rfl)) rfl ?_)
   refine yBD rfl (yA5 (X:=Unit) xE csz xP rfl ?_)
   refine yBD rfl (yEH (yAg rfl w1) rfl ?_)
   refine yBD rfl (yEH (yAf rfl rfl qm) rfl ?_)
   refine yBD rfl (yEH (yAn rfl e15) rfl ?_)
   refine yOR (yLU xE cup xP (fun _=>?_))
   refine KJ.pnSeq ?_
   exact yBo () rfl (xN)
theorem yT1 (hE:ErrsAt W F) (hN:NibAt W) (h1:64≤n) (h2:n≤65536) (life:Int) (hDn:D.n=n) (v L:Nat) (hv:1≤v∧v≤1099511627776) (hL:L≤234*yAu n) (g1:yA9 D 0=0) (g2:yBC D 0=v) (g3:yBt D 0=yBd n L) (g4:yBH D (yAt n v) (yAu n) v L=([],15)) :
 Pn prog W 42 [zPp s] [stP s d q n 0 none life false,DiskP d D] (fun _:Unit=>brk F 15) (fun _=>[DiskP d D]):=by
 have hE16:ErrsOn L16 W F:=hE.to16
 have hE8:ErrsOn L8 W F:=hE16.to8
 have e1:W.cell? ⟨7,0,none⟩=some (yAr F 1):=hE16.at_ 1 zX
 have e2:W.cell? ⟨8,0,none⟩=some (yAr F 2):=hE16.at_ 2 zX
 have e3:W.cell? ⟨9,0,none⟩=some (yAr F 3):=hE16.at_ 3 zX
 have e5:W.cell? ⟨11,0,none⟩=some (yAr F 5):=hE16.at_ 5 zX
 have e15:W.cell? ⟨17,0,none⟩=some (yAr F 15):=hE16.at_ 15 zX
 have hA:=yA8 (n:=n) zO
 have cpn:=fun e (h1:1≤e) (h2:e≤7)=>yBF hE e h1 zO zO
 have cp15:=yBF hE 15 zO zO zO
 have cup:=yDT (W:=W) (F:=F) 15 zO
 have cm:=yFv (W:=W)
 have cc:=yCq (W:=W) hE16
 have cun:=yCC (W:=W) (yAr F 15)
 have cro:=fun q v=>yCr (W:=W) (s:=s) (d:=d) (q:=q) (n:=n) v none life false zO
 have csz:CtU prog W 25 [zPp d] [DiskP d D] (.int .i64 (n:Nat)) [DiskP d D]:=by
  have:=yBs (W:=W) (p:=d) (D:=D)
  rw [hDn] at this
  exact this
 have w1:IntKind.u64.wrap ((n:Nat):Int)=((n:Nat):Int):=yAo _ zO
 have qe:decide (((n:Nat):Int)=((n:Nat):Int))=true:=zY rfl
 obtain ⟨f1,f2,f3,f4⟩:=yAO h1 v
 have hLp:=yB9 L
 have hLl:=yBO L
 have hvp:=yB9 n
 have hvn:=yBO n
 obtain ⟨hd,hhd⟩:∃ hd,hd=yBd n L:=⟨_,rfl⟩
 have hdl:hd.length=(vu n).length+(vu L).length:=by rw [hhd];unfold yBd;rw [zLa]
 have hru1:ru (hd.drop 0)=.ok n (vu L):=by
  rw [zLo,hhd]
  exact yEJ n zO (vu L)
 have hru2:ru (hd.drop (vu n).length)=.ok L []:=by
  rw [hhd]
  unfold yBd
  rw [List.drop_left]
  have:=yEJ L zO []
  rwa [zLs] at this
 have cr:CtU prog W 27 [zPp d,.int .i64 0] [DiskP d D] (.tuple #[strV hd,.int .i64 (v:Nat),.nilIface]) [DiskP d D]:=by
  have:=yCE (W:=W) (p:=d) (D:=D) hE8 hN zO 0
  rw [g1,g2,g3,← hhd] at this
  exact this
 have crd:=yDb (W:=W) hd
 have cu:∀ g,CtU prog W 85 [zPp g] [rdP g hd 0] (.tuple #[.int .u64 (n:Nat),.nilIface]) [rdP g hd (vu n).length]:=fun g=>by
  have:=yDz (W:=W) (F:=F) (p:=g) (s:=hd) (a:=0) zO zO e1 e2 (.ok n (vu L)) hru1
  rw [zLq] at this
  exact this
 have cupt:∀ g,CtU prog W 87 [zPp g,.int .i64 (234*yAu n:Nat)] [rdP g hd (vu n).length] (.tuple #[.int .i64 (L:Nat),.nilIface]) [rdP g hd ((vu n).length+(vu L).length)]:=fun g=>by
  have:=yDd (W:=W) (F:=F) (p:=g) (s:=hd) (a:=(vu n).length) (234*yAu n) zO zO zO e1 e2 e3 (.ok L []) hru2
  have u1:yNm (234*yAu n) (.ok L [])=L:=(if_neg zO:(if 234*yAu n<L then 0 else L)=L)
  have u2:yGy (234*yAu n) (.ok L [])=0:=(if_neg zO:(if 234*yAu n<L then 3 else 0)=0)
  have u3:yNn (234*yAu n) (.ok L [])=(vu L).length:=(if_neg zO:(if 234*yAu n<L then 0 else (vu L).length)=(vu L).length)
  rw [u1,u2,u3] at this
  exact this
 have cd:∀ g,CtU prog W 88 [zPp g] [rdP g hd ((vu n).length+(vu L).length)] .nilIface [rdP g hd ((vu n).length+(vu L).length)]:=fun g=>by
  have:=yDc (W:=W) (F:=F) (p:=g) (s:=hd) (a:=(vu n).length+(vu L).length) zO zO e5
  rw [if_neg zO] at this
  exact this
 have w2:IntKind.u64.wrap ((v:Nat):Int)=((v:Nat):Int):=yAo _ zO
 obtain ⟨m,hm⟩:∃ m:Nat,((v:Nat):Int) % 2=(m:Nat):=⟨v % 2,zO⟩
 have hm2:m<2:=zO
 have hx:∀ z,(stC d z n 0 none life false)[0+1+0+((m:Nat):Int).toNat*1]? = some (.int .i64 (yAt n v:Nat)):=fun z=>by
  unfold yAt
  rcases (show m=0∨m=1 by omega) with rfl|rfl
  ·rw [if_pos zO];rfl
  ·rw [if_neg zO];rfl
 clear g1 g2 g3 hru1 hru2 hhd
 have car:CtU prog W 90 [zPp d,.int .i64 (yAt n v:Nat),.int .i64 (yAu n:Nat),.int .u64 (v:Nat),.int .i64 (L:Nat)] [DiskP d D] (.tuple #[strV [],yAr F 15]) [DiskP d D]:=by
  have:=yFN (W:=W) (p:=d) (D:=D) hE8 e15 hN zO (yAt n v:Nat) (yAu n:Nat) (v:Nat) (L:Nat)
  rw [g4] at this
  exact this
 refine Pn.enter func42 rfl ntmps42 zW (fun R=>?_)
 repeat' (first|refine yB5 rfl xE cp15 xP (fun _=>?_)|refine KJ.pnSeq ?_|refine KJ.pnThn ?_|refine KJ.pnBlk ?_|(refine yAb ?_;first|refine xca car fun _=>?_|refine xca cun fun _=>?_|refine xca csz fun _=>?_|refine xca (cd _) fun _=>?_|refine xca (cupt _) fun _=>?_|refine xca (cro _ _) fun _=>?_|refine xca cc fun _=>?_|refine xca (cu _) fun _=>?_|refine xca crd fun g=>?_|refine xca cm fun _=>?_|refine xca cr fun _=>?_)|(refine yAj ?_;first|refine yAa (yDm rfl xS (hx _)) ?_|refine yAa (yAn rfl e15) ?_)|refine yAa (yAg rfl w2) ?_|refine yAa (yAg rfl w1) ?_|refine yAa (yAZ rfl rfl zO hm) ?_|refine yAa (yAf rfl rfl qe) ?_|refine xst ?_|refine xsa ?_;intro _|refine xsb ?_ ?_<;>intro _<;>try omega|refine xsc ?_|refine xdr 8 yEZ ?_|refine xdr 9 yE0 ?_|refine xdr 12 yED ?_|refine xdr 21 yE1 ?_|refine xsd ?_ ?_|exact Rech.nil|fail)
 all_goals exact yBo () rfl (xN)
theorem yT2 (hE:ErrsAt W F) (hN:NibAt W) (h1:64≤n) (h2:n≤65536) (life:Int) (hDn:D.n=n) (v L:Nat) (hv:1≤v∧v≤1099511627776) (hL:L≤234*yAu n) (g1:yA9 D 0=0) (g2:yBC D 0=v) (g3:yBt D 0=yBd n L) (t:List UInt8) (ht:t.length≤144115188075855872) (hr:yF0 t=none) (g4:yBH D (yAt n v) (yAu n) v L=(t,0)) :
 Pn prog W 42 [zPp s] [stP s d q n 0 none life false,DiskP d D] (fun _:Unit=>brk F 15) (fun _=>[DiskP d D]):=by
 have hE16:ErrsOn L16 W F:=hE.to16
 have hE8:ErrsOn L8 W F:=hE16.to8
 have e1:W.cell? ⟨7,0,none⟩=some (yAr F 1):=hE16.at_ 1 zX
 have e2:W.cell? ⟨8,0,none⟩=some (yAr F 2):=hE16.at_ 2 zX
 have e3:W.cell? ⟨9,0,none⟩=some (yAr F 3):=hE16.at_ 3 zX
 have e5:W.cell? ⟨11,0,none⟩=some (yAr F 5):=hE16.at_ 5 zX
 have e15:W.cell? ⟨17,0,none⟩=some (yAr F 15):=hE16.at_ 15 zX
 have hA:=yA8 (n:=n) zO
 have cpn:=fun e (h1:1≤e) (h2:e≤7)=>yBF hE e h1 zO zO
 have cp15:=yBF hE 15 zO zO zO
 have cup:=yDT (W:=W) (F:=F) 15 zO
 have cm:=yFv (W:=W)
 have cc:=yCq (W:=W) hE16
 have cun:=yCC (W:=W) (yAr F 15)
 have cro:=fun q v=>yCr (W:=W) (s:=s) (d:=d) (q:=q) (n:=n) v none life false zO
 have csz:CtU prog W 25 [zPp d] [DiskP d D] (.int .i64 (n:Nat)) [DiskP d D]:=by
  have:=yBs (W:=W) (p:=d) (D:=D)
  rw [hDn] at this
  exact this
 have w1:IntKind.u64.wrap ((n:Nat):Int)=((n:Nat):Int):=yAo _ zO
 have qe:decide (((n:Nat):Int)=((n:Nat):Int))=true:=zY rfl
 obtain ⟨f1,f2,f3,f4⟩:=yAO h1 v
 have hLp:=yB9 L
 have hLl:=yBO L
 have hvp:=yB9 n
 have hvn:=yBO n
 obtain ⟨hd,hhd⟩:∃ hd,hd=yBd n L:=⟨_,rfl⟩
 have hdl:hd.length=(vu n).length+(vu L).length:=by rw [hhd];unfold yBd;rw [zLa]
 have hru1:ru (hd.drop 0)=.ok n (vu L):=by
  rw [zLo,hhd]
  exact yEJ n zO (vu L)
 have hru2:ru (hd.drop (vu n).length)=.ok L []:=by
  rw [hhd]
  unfold yBd
  rw [List.drop_left]
  have:=yEJ L zO []
  rwa [zLs] at this
 have cr:CtU prog W 27 [zPp d,.int .i64 0] [DiskP d D] (.tuple #[strV hd,.int .i64 (v:Nat),.nilIface]) [DiskP d D]:=by
  have:=yCE (W:=W) (p:=d) (D:=D) hE8 hN zO 0
  rw [g1,g2,g3,← hhd] at this
  exact this
 have crd:=yDb (W:=W) hd
 have cu:∀ g,CtU prog W 85 [zPp g] [rdP g hd 0] (.tuple #[.int .u64 (n:Nat),.nilIface]) [rdP g hd (vu n).length]:=fun g=>by
  have:=yDz (W:=W) (F:=F) (p:=g) (s:=hd) (a:=0) zO zO e1 e2 (.ok n (vu L)) hru1
  rw [zLq] at this
  exact this
 have cupt:∀ g,CtU prog W 87 [zPp g,.int .i64 (234*yAu n:Nat)] [rdP g hd (vu n).length] (.tuple #[.int .i64 (L:Nat),.nilIface]) [rdP g hd ((vu n).length+(vu L).length)]:=fun g=>by
  have:=yDd (W:=W) (F:=F) (p:=g) (s:=hd) (a:=(vu n).length) (234*yAu n) zO zO zO e1 e2 e3 (.ok L []) hru2
  have u1:yNm (234*yAu n) (.ok L [])=L:=(if_neg zO:(if 234*yAu n<L then 0 else L)=L)
  have u2:yGy (234*yAu n) (.ok L [])=0:=(if_neg zO:(if 234*yAu n<L then 3 else 0)=0)
  have u3:yNn (234*yAu n) (.ok L [])=(vu L).length:=(if_neg zO:(if 234*yAu n<L then 0 else (vu L).length)=(vu L).length)
  rw [u1,u2,u3] at this
  exact this
 have cd:∀ g,CtU prog W 88 [zPp g] [rdP g hd ((vu n).length+(vu L).length)] .nilIface [rdP g hd ((vu n).length+(vu L).length)]:=fun g=>by
  have:=yDc (W:=W) (F:=F) (p:=g) (s:=hd) (a:=(vu n).length+(vu L).length) zO zO e5
  rw [if_neg zO] at this
  exact this
 have w2:IntKind.u64.wrap ((v:Nat):Int)=((v:Nat):Int):=yAo _ zO
 obtain ⟨m,hm⟩:∃ m:Nat,((v:Nat):Int) % 2=(m:Nat):=⟨v % 2,zO⟩
 have hm2:m<2:=zO
 have hx:∀ z,(stC d z n 0 none life false)[0+1+0+((m:Nat):Int).toNat*1]? = some (.int .i64 (yAt n v:Nat)):=fun z=>by
  unfold yAt
  rcases (show m=0∨m=1 by omega) with rfl|rfl
  ·rw [if_pos zO];rfl
  ·rw [if_neg zO];rfl
 clear g1 g2 g3 hru1 hru2 hhd
 have car:CtU prog W 90 [zPp d,.int .i64 (yAt n v:Nat),.int .i64 (yAu n:Nat),.int .u64 (v:Nat),.int .i64 (L:Nat)] [DiskP d D] (.tuple #[strV t,.nilIface]) [DiskP d D]:=by
  have:=yFN (W:=W) (p:=d) (D:=D) hE8 e15 hN zO (yAt n v:Nat) (yAu n:Nat) (v:Nat) (L:Nat)
  rw [g4] at this
  exact this
 have cre:=yQ9 (W:=W) (F:=F) hE t ht hr
 refine Pn.enter func42 rfl ntmps42 zW (fun R=>?_)
 repeat' (first|refine yB5 rfl xE cre xP (fun _=>?_)|refine KJ.pnSeq ?_|refine KJ.pnThn ?_|refine KJ.pnBlk ?_|(refine yAb ?_;first|refine xca car fun _=>?_|refine xca cun fun _=>?_|refine xca csz fun _=>?_|refine xca (cd _) fun _=>?_|refine xca (cupt _) fun _=>?_|refine xca (cro _ _) fun _=>?_|refine xca cc fun _=>?_|refine xca (cu _) fun _=>?_|refine xca crd fun g=>?_|refine xca cm fun _=>?_|refine xca cr fun _=>?_)|(refine yAj ?_;first|refine yAa (yDm rfl xS (hx _)) ?_|refine yAa (yAn rfl e15) ?_)|refine yAa (yAg rfl w2) ?_|refine yAa (yAg rfl w1) ?_|refine yAa (yAZ rfl rfl zO hm) ?_|refine yAa (yAf rfl rfl qe) ?_|refine xst ?_|refine xsa ?_;intro _|refine xsb ?_ ?_<;>intro _<;>try omega|refine xsc ?_|refine xdr 8 yEZ ?_|refine xdr 9 yE0 ?_|refine xdr 12 yED ?_|refine xdr 21 yE1 ?_|refine xsd ?_ ?_|exact Rech.nil|fail)
 all_goals exact yBo () rfl (xN)
theorem yT3 (hE:ErrsAt W F) (hN:NibAt W) (h1:64≤n) (h2:n≤65536) (life:Int) (hDn:D.n=n) (v:Nat) {r:Rows} (hr:RisR r) (hv:1≤v∧v≤1099511627776) (hL:(yAh r).length≤234*yAu n) (g1:yA9 D 0=0) (g2:yBC D 0=v) (g3:yBt D 0=yBd n (yAh r).length) (ho:D.off=false) (g4:yBH D (yAt n v) (yAu n) v (yAh r).length=(yAh r,0)) (recs:List (List UInt8)) (g5:yEY D (yAK n:Nat) (yA2 n:Nat) v ((((yA2 n:Nat):Int).toNat)+1) 0 []=recs) (hlen:∀ x ∈ recs,x.length≤15269888) (hcn:recs.length≤65537) (i0:Nat) (hi0:i0<recs.length) (hb:∀ x,recs[i0]? = some x→(yAE x).2≠0) (hg:∀ j x,j<i0→recs[j]? = some x→(yAE x).2=0) :
 Pn prog W 42 [zPp s] [stP s d q n 0 none life false,DiskP d D] (fun _:Unit=>brk F 15) (fun _=>[DiskP d D]):=by
 have hE16:ErrsOn L16 W F:=hE.to16
 have hE8:ErrsOn L8 W F:=hE16.to8
 have e1:W.cell? ⟨7,0,none⟩=some (yAr F 1):=hE16.at_ 1 zX
 have e2:W.cell? ⟨8,0,none⟩=some (yAr F 2):=hE16.at_ 2 zX
 have e3:W.cell? ⟨9,0,none⟩=some (yAr F 3):=hE16.at_ 3 zX
 have e5:W.cell? ⟨11,0,none⟩=some (yAr F 5):=hE16.at_ 5 zX
 have e15:W.cell? ⟨17,0,none⟩=some (yAr F 15):=hE16.at_ 15 zX
 have hA:=yA8 (n:=n) zO
 have cpn:=fun e (h1:1≤e) (h2:e≤7)=>yBF hE e h1 zO zO
 have cp15:=yBF hE 15 zO zO zO
 have cup:=yDT (W:=W) (F:=F) 15 zO
 have cm:=yFv (W:=W)
 have cc:=yCq (W:=W) hE16
 have cun:=yCC (W:=W) (yAr F 15)
 have cro:=fun q v=>yCr (W:=W) (s:=s) (d:=d) (q:=q) (n:=n) v none life false zO
 have csz:CtU prog W 25 [zPp d] [DiskP d D] (.int .i64 (n:Nat)) [DiskP d D]:=by
  have:=yBs (W:=W) (p:=d) (D:=D)
  rw [hDn] at this
  exact this
 have w1:IntKind.u64.wrap ((n:Nat):Int)=((n:Nat):Int):=yAo _ zO
 have qe:decide (((n:Nat):Int)=((n:Nat):Int))=true:=zY rfl
 have hrl2:∀ i,i≤recs.length→(lgR r recs i).length≤15335424+i*15269888:=by
  intro i
  induction i with
  |zero=>intro _;show r.length≤_;have:=yCB r;have h9:(yAh r).length=(vu r.length).length+(r.flatMap rowB).length:=(by unfold yAh;rw [zLa]);omega
  |succ i ih=>
   intro hi
   obtain ⟨x,hx⟩:∃ x,recs[i]? = some x:=⟨_,zLb zO⟩
   have h1:=yCp (yAE x).1 (lgR r recs i)
   have h2:=yDn x
   have h3:=hlen x (zLk hx)
   have h4:=ih zO
   rw [yCa r hx,zLH]
   omega
 have hrl2:∀ i,i≤recs.length→(lgR r recs i).length≤1100000000000:=fun i hi=>by
  have h3:=hrl2 i hi
  have:i*15269888≤65537*15269888:=zLt _ zO
  omega
 obtain ⟨L,hLL⟩:∃ L,L=(yAh r).length:=⟨_,rfl⟩
 rw [← hLL] at hL g3 g4
 obtain ⟨f1,f2,f3,f4⟩:=yAO h1 v
 have hLp:=yB9 L
 have hLl:=yBO L
 have hvp:=yB9 n
 have hvn:=yBO n
 obtain ⟨hd,hhd⟩:∃ hd,hd=yBd n L:=⟨_,rfl⟩
 have hdl:hd.length=(vu n).length+(vu L).length:=by rw [hhd];unfold yBd;rw [zLa]
 have hru1:ru (hd.drop 0)=.ok n (vu L):=by
  rw [zLo,hhd]
  exact yEJ n zO (vu L)
 have hru2:ru (hd.drop (vu n).length)=.ok L []:=by
  rw [hhd]
  unfold yBd
  rw [List.drop_left]
  have:=yEJ L zO []
  rwa [zLs] at this
 have cr:CtU prog W 27 [zPp d,.int .i64 0] [DiskP d D] (.tuple #[strV hd,.int .i64 (v:Nat),.nilIface]) [DiskP d D]:=by
  have:=yCE (W:=W) (p:=d) (D:=D) hE8 hN zO 0
  rw [g1,g2,g3,← hhd] at this
  exact this
 have crd:=yDb (W:=W) hd
 have cu:∀ g,CtU prog W 85 [zPp g] [rdP g hd 0] (.tuple #[.int .u64 (n:Nat),.nilIface]) [rdP g hd (vu n).length]:=fun g=>by
  have:=yDz (W:=W) (F:=F) (p:=g) (s:=hd) (a:=0) zO zO e1 e2 (.ok n (vu L)) hru1
  rw [zLq] at this
  exact this
 have cupt:∀ g,CtU prog W 87 [zPp g,.int .i64 (234*yAu n:Nat)] [rdP g hd (vu n).length] (.tuple #[.int .i64 (L:Nat),.nilIface]) [rdP g hd ((vu n).length+(vu L).length)]:=fun g=>by
  have:=yDd (W:=W) (F:=F) (p:=g) (s:=hd) (a:=(vu n).length) (234*yAu n) zO zO zO e1 e2 e3 (.ok L []) hru2
  have u1:yNm (234*yAu n) (.ok L [])=L:=(if_neg zO:(if 234*yAu n<L then 0 else L)=L)
  have u2:yGy (234*yAu n) (.ok L [])=0:=(if_neg zO:(if 234*yAu n<L then 3 else 0)=0)
  have u3:yNn (234*yAu n) (.ok L [])=(vu L).length:=(if_neg zO:(if 234*yAu n<L then 0 else (vu L).length)=(vu L).length)
  rw [u1,u2,u3] at this
  exact this
 have cd:∀ g,CtU prog W 88 [zPp g] [rdP g hd ((vu n).length+(vu L).length)] .nilIface [rdP g hd ((vu n).length+(vu L).length)]:=fun g=>by
  have:=yDc (W:=W) (F:=F) (p:=g) (s:=hd) (a:=(vu n).length+(vu L).length) zO zO e5
  rw [if_neg zO] at this
  exact this
 have w2:IntKind.u64.wrap ((v:Nat):Int)=((v:Nat):Int):=yAo _ zO
 obtain ⟨m,hm⟩:∃ m:Nat,((v:Nat):Int) % 2=(m:Nat):=⟨v % 2,zO⟩
 have hm2:m<2:=zO
 have hx:∀ z,(stC d z n 0 none life false)[0+1+0+((m:Nat):Int).toNat*1]? = some (.int .i64 (yAt n v:Nat)):=fun z=>by
  unfold yAt
  rcases (show m=0∨m=1 by omega) with rfl|rfl
  ·rw [if_pos zO];rfl
  ·rw [if_neg zO];rfl
 clear g1 g2 g3 hru1 hru2 hhd
 have car:CtU prog W 90 [zPp d,.int .i64 (yAt n v:Nat),.int .i64 (yAu n:Nat),.int .u64 (v:Nat),.int .i64 (L:Nat)] [DiskP d D] (.tuple #[strV (yAh r),.nilIface]) [DiskP d D]:=by
  have:=yFN (W:=W) (p:=d) (D:=D) hE8 e15 hN zO (yAt n v:Nat) (yAu n:Nat) (v:Nat) (L:Nat)
  rw [g4] at this
  exact this
 have hsn2:(yAh r).length≤234*yAu n:=zO
 have hrl:=(yDk r zO).2
 have cre:=yFS (W:=W) (F:=F) hE16 hr zO zO
 have crp:Ct prog W 92 [zPp d,.int .i64 (yAK n:Nat),.int .i64 (yA2 n:Nat),.int .i64 (v:Nat)] [DiskP d D] (fun x:Option Addr × Nat=>.tuple #[.slice x.1 recs.length x.2,.nilIface]) (fun x=>[DiskP d D,lsP lrcC 9 1 (.slice x.1 recs.length x.2) recs]):=by
  have h:=yG4 (W:=W) (p:=d) (D:=D) hE8 hN (yAK n:Nat) (yA2 n:Nat) v zO ho ⟨zO,zO,zO,zO,zO,zO,zO⟩
  rw [g5,yEy] at h
  exact Ct.rowSl h
 clear g4 g5
 refine Pn.enter func42 rfl ntmps42 zW (fun R=>?_)
 repeat' (first|(refine yAb ?_;first|refine xca crp fun x=>?_;obtain ⟨xa,xc⟩:=x|refine xca cre fun y=>?_;obtain ⟨q',⟨⟨N,a,b⟩,gN,hT⟩⟩:=y;dsimp only at gN hT ⊢|refine xca car fun _=>?_|refine xca cun fun _=>?_|refine xca csz fun _=>?_|refine xca (cd _) fun _=>?_|refine xca (cupt _) fun _=>?_|refine xca (cro _ _) fun _=>?_|refine xca cc fun _=>?_|refine xca (cu _) fun _=>?_|refine xca crd fun g=>?_|refine xca cm fun _=>?_|refine xca cr fun _=>?_)|(refine yAj ?_;first|refine yAa (yDm rfl xS (hx _)) ?_|refine yAa (yAn rfl e15) ?_)|refine yAa (yAg rfl w2) ?_|refine yAa (yAg rfl w1) ?_|refine yAa (yAZ rfl rfl zO hm) ?_|refine yAa (yAf rfl rfl qe) ?_|refine xst ?_|refine xsa ?_;intro _|refine xsb ?_ ?_<;>intro _<;>try omega|refine xsc ?_|refine xdr 8 yEZ ?_|refine xdr 9 yE0 ?_|refine xdr 12 yED ?_|refine xdr 21 yE1 ?_|refine xsd ?_ ?_|exact Rech.nil|fail)
 have hLv:Lv W lrcC 1 (lsP lrcC 9 1 (.slice xa recs.length xc) recs) xa recs:=Lv.own yCZ rfl
 refine yAz (fun x:{x:Nat × List Nd × Option Addr × Int//x.1≤i0∧TbOk x.2.1 x.2.2.1 (lgR r recs x.1)}=>[(0,zPp s),(3,.int .i64 (v:Nat)),(108,.slice xa recs.length xc),(109,.int .i64 (recs.length:Nat)),(110,.int .i64 (x.1.1:Nat))])
  (fun x=>[stP s d q' n 0 none life false,DiskP d D,tbP q' x.1.2.2.1 x.1.2.2.2,arP x.1.2.1,lsP lrcC 9 1 (.slice xa recs.length xc) recs]++R) (fun x=>recs.length-x.1.1) ⟨(0,N,a,b),zLA _,hT⟩ xB (xN) (fun ⟨(i,N2,a2,b2),hi,hT2⟩=>?_)
 dsimp only at hi hT2 ⊢
 by_cases hlt:i<i0
 ·have ql:decide ((i:Int)<(recs.length:Nat))=true:=zY zO
  obtain ⟨x,hx0⟩:∃ s,recs[i]? = some s:=⟨_,zLb zO⟩
  refine KJ.lvSome hLv xS zO (fun b0 of hab=>?_)
  subst hab
  have hoff:of+Int.toNat (i:Int)*1=of+i*1+0:=zW
  have hv0:(lrcC x)[0]? = some (strV x):=rfl
  have hxl:=hlen x (zLk hx0)
  have cde:=yFU (W:=W) (F:=F) x zO hE16
  have hdx:=hg i x hlt hx0
  rw [hdx] at cde
  have hnx:=yCa r hx0
  have hll:=hrl2 i zO
  have hdl2:=yDn x
  have cba:=fun ya yc=>yCY (W:=W) (p:=q') (tb:=b2) hT2 _ ya yc (yAE x).1 (Lv.own (e:=60) (c:=yc) yBy rfl) zO
  rw [← hnx] at cba
  have hnn:yAr F 0=.nilIface:=rfl
  rw [hnn] at cde
  obtain ⟨os,hos⟩:∃ os,os=(yAE x).1:=⟨_,rfl⟩
  rw [← hos] at cde cba
  repeat' (first|(refine yAb ?_;first|refine xca (cba _ _) fun y=>?_;obtain ⟨⟨N3,a3,b3⟩,g3,t3⟩:=y;dsimp only at g3 t3 ⊢|refine xca cc fun _=>?_|refine xca cde fun y=>?_;obtain ⟨ya,yc⟩:=y)|refine yAj ?_;refine yAa (yBh yCZ hLv rfl rfl xS hoff hx0 hv0) ?_|refine yAa (yAd (r:=((i+1:Nat):Int)) rfl rfl zO zO) ?_|refine yAa (yAc rfl rfl ql) ?_|refine xst ?_|refine xsa ?_;intro _|refine xsb ?_ ?_<;>intro _<;>try omega|refine xsc ?_|refine xdr 8 yEZ ?_|refine xdr 9 yE0 ?_|refine xdr 12 yED ?_|refine xdr 21 yE1 ?_|refine xsd ?_ ?_|exact Rech.nil|fail)
  all_goals refine yAp ⟨(i+1,N3,a3,b3),zO,t3⟩ (by show recs.length-(i+1)<recs.length-i;omega) xB (xN)
 ·obtain rfl:i=i0:=by omega
  have ql:decide ((i:Int)<(recs.length:Nat))=true:=zY zO
  obtain ⟨x,hx0⟩:∃ s,recs[i]? = some s:=⟨_,zLb zO⟩
  refine KJ.lvSome hLv xS zO (fun b0 of hab=>?_)
  subst hab
  have hoff:of+Int.toNat (i:Int)*1=of+i*1+0:=zW
  have hv0:(lrcC x)[0]? = some (strV x):=rfl
  have hxl:=hlen x (zLk hx0)
  have cde:=yFU (W:=W) (F:=F) x zO hE16
  have hdx:=hb x hx0
  have hde:=yYl x
  have cp1:=cpn (yAE x).2 zO hde
  repeat' (first|refine yB5 rfl xE cp1 xP (fun _=>?_)|refine KJ.pnSeq ?_|refine KJ.pnThn ?_|refine KJ.pnBlk ?_|refine yAb ?_;refine xca cde fun y=>?_;obtain ⟨ya,yc⟩:=y|refine yAj ?_;refine yAa (yBh yCZ hLv rfl rfl xS hoff hx0 hv0) ?_|refine yAa (yAc rfl rfl ql) ?_|refine xst ?_|refine xsa ?_;intro _|refine xsb ?_ ?_<;>intro _<;>try omega|refine xsc ?_|refine xdr 8 yEZ ?_|refine xdr 9 yE0 ?_|refine xdr 12 yED ?_|refine xdr 21 yE1 ?_|refine xsd ?_ ?_|exact Rech.nil|fail)
  all_goals exact yBo () rfl (xN)
theorem yT4 (hE:ErrsAt W F) (hN:NibAt W) (h1:64≤n) (h2:n≤65536) (life:Int) (hDn:D.n=n) (v:Nat) {r:Rows} (hr:RisR r) (hv:1≤v∧v≤1099511627776) (hL:(yAh r).length≤234*yAu n) (g1:yA9 D 0=0) (g2:yBC D 0=v) (g3:yBt D 0=yBd n (yAh r).length) (ho:D.off=false) (g4:yBH D (yAt n v) (yAu n) v (yAh r).length=(yAh r,0)) (recs:List (List UInt8)) (g5:yEY D (yAK n:Nat) (yA2 n:Nat) v ((((yA2 n:Nat):Int).toNat)+1) 0 []=recs) (hlen:∀ x ∈ recs,x.length≤15269888) (hcn:recs.length≤65537) (hd2:∀ x ∈ recs,(yAE x).2=0) (hbig:234*yAu n<(yAh (lgR r recs recs.length)).length) (hmax:(yAh (lgR r recs recs.length)).length≤4611686018427387904) :
 Pn prog W 42 [zPp s] [stP s d q n 0 none life false,DiskP d D] (fun _:Unit=>brk F 15) (fun _=>[DiskP d D]):=by
 have hE16:ErrsOn L16 W F:=hE.to16
 have hE8:ErrsOn L8 W F:=hE16.to8
 have e1:W.cell? ⟨7,0,none⟩=some (yAr F 1):=hE16.at_ 1 zX
 have e2:W.cell? ⟨8,0,none⟩=some (yAr F 2):=hE16.at_ 2 zX
 have e3:W.cell? ⟨9,0,none⟩=some (yAr F 3):=hE16.at_ 3 zX
 have e5:W.cell? ⟨11,0,none⟩=some (yAr F 5):=hE16.at_ 5 zX
 have e15:W.cell? ⟨17,0,none⟩=some (yAr F 15):=hE16.at_ 15 zX
 have hA:=yA8 (n:=n) zO
 have cpn:=fun e (h1:1≤e) (h2:e≤7)=>yBF hE e h1 zO zO
 have cp15:=yBF hE 15 zO zO zO
 have cup:=yDT (W:=W) (F:=F) 15 zO
 have cm:=yFv (W:=W)
 have cc:=yCq (W:=W) hE16
 have cun:=yCC (W:=W) (yAr F 15)
 have cro:=fun q v=>yCr (W:=W) (s:=s) (d:=d) (q:=q) (n:=n) v none life false zO
 have csz:CtU prog W 25 [zPp d] [DiskP d D] (.int .i64 (n:Nat)) [DiskP d D]:=by
  have:=yBs (W:=W) (p:=d) (D:=D)
  rw [hDn] at this
  exact this
 have w1:IntKind.u64.wrap ((n:Nat):Int)=((n:Nat):Int):=yAo _ zO
 have qe:decide (((n:Nat):Int)=((n:Nat):Int))=true:=zY rfl
 have hrl2:∀ i,i≤recs.length→(lgR r recs i).length≤15335424+i*15269888:=by
  intro i
  induction i with
  |zero=>intro _;show r.length≤_;have:=yCB r;have h9:(yAh r).length=(vu r.length).length+(r.flatMap rowB).length:=(by unfold yAh;rw [zLa]);omega
  |succ i ih=>
   intro hi
   obtain ⟨x,hx⟩:∃ x,recs[i]? = some x:=⟨_,zLb zO⟩
   have h1:=yCp (yAE x).1 (lgR r recs i)
   have h2:=yDn x
   have h3:=hlen x (zLk hx)
   have h4:=ih zO
   rw [yCa r hx,zLH]
   omega
 have hrl2:∀ i,i≤recs.length→(lgR r recs i).length≤1100000000000:=fun i hi=>by
  have h3:=hrl2 i hi
  have:i*15269888≤65537*15269888:=zLt _ zO
  omega
 obtain ⟨L,hLL⟩:∃ L,L=(yAh r).length:=⟨_,rfl⟩
 rw [← hLL] at hL g3 g4
 obtain ⟨f1,f2,f3,f4⟩:=yAO h1 v
 have hLp:=yB9 L
 have hLl:=yBO L
 have hvp:=yB9 n
 have hvn:=yBO n
 obtain ⟨hd,hhd⟩:∃ hd,hd=yBd n L:=⟨_,rfl⟩
 have hdl:hd.length=(vu n).length+(vu L).length:=by rw [hhd];unfold yBd;rw [zLa]
 have hru1:ru (hd.drop 0)=.ok n (vu L):=by
  rw [zLo,hhd]
  exact yEJ n zO (vu L)
 have hru2:ru (hd.drop (vu n).length)=.ok L []:=by
  rw [hhd]
  unfold yBd
  rw [List.drop_left]
  have:=yEJ L zO []
  rwa [zLs] at this
 have cr:CtU prog W 27 [zPp d,.int .i64 0] [DiskP d D] (.tuple #[strV hd,.int .i64 (v:Nat),.nilIface]) [DiskP d D]:=by
  have:=yCE (W:=W) (p:=d) (D:=D) hE8 hN zO 0
  rw [g1,g2,g3,← hhd] at this
  exact this
 have crd:=yDb (W:=W) hd
 have cu:∀ g,CtU prog W 85 [zPp g] [rdP g hd 0] (.tuple #[.int .u64 (n:Nat),.nilIface]) [rdP g hd (vu n).length]:=fun g=>by
  have:=yDz (W:=W) (F:=F) (p:=g) (s:=hd) (a:=0) zO zO e1 e2 (.ok n (vu L)) hru1
  rw [zLq] at this
  exact this
 have cupt:∀ g,CtU prog W 87 [zPp g,.int .i64 (234*yAu n:Nat)] [rdP g hd (vu n).length] (.tuple #[.int .i64 (L:Nat),.nilIface]) [rdP g hd ((vu n).length+(vu L).length)]:=fun g=>by
  have:=yDd (W:=W) (F:=F) (p:=g) (s:=hd) (a:=(vu n).length) (234*yAu n) zO zO zO e1 e2 e3 (.ok L []) hru2
  have u1:yNm (234*yAu n) (.ok L [])=L:=(if_neg zO:(if 234*yAu n<L then 0 else L)=L)
  have u2:yGy (234*yAu n) (.ok L [])=0:=(if_neg zO:(if 234*yAu n<L then 3 else 0)=0)
  have u3:yNn (234*yAu n) (.ok L [])=(vu L).length:=(if_neg zO:(if 234*yAu n<L then 0 else (vu L).length)=(vu L).length)
  rw [u1,u2,u3] at this
  exact this
 have cd:∀ g,CtU prog W 88 [zPp g] [rdP g hd ((vu n).length+(vu L).length)] .nilIface [rdP g hd ((vu n).length+(vu L).length)]:=fun g=>by
  have:=yDc (W:=W) (F:=F) (p:=g) (s:=hd) (a:=(vu n).length+(vu L).length) zO zO e5
  rw [if_neg zO] at this
  exact this
 have w2:IntKind.u64.wrap ((v:Nat):Int)=((v:Nat):Int):=yAo _ zO
 obtain ⟨m,hm⟩:∃ m:Nat,((v:Nat):Int) % 2=(m:Nat):=⟨v % 2,zO⟩
 have hm2:m<2:=zO
 have hx:∀ z,(stC d z n 0 none life false)[0+1+0+((m:Nat):Int).toNat*1]? = some (.int .i64 (yAt n v:Nat)):=fun z=>by
  unfold yAt
  rcases (show m=0∨m=1 by omega) with rfl|rfl
  ·rw [if_pos zO];rfl
  ·rw [if_neg zO];rfl
 clear g1 g2 g3 hru1 hru2 hhd
 have car:CtU prog W 90 [zPp d,.int .i64 (yAt n v:Nat),.int .i64 (yAu n:Nat),.int .u64 (v:Nat),.int .i64 (L:Nat)] [DiskP d D] (.tuple #[strV (yAh r),.nilIface]) [DiskP d D]:=by
  have:=yFN (W:=W) (p:=d) (D:=D) hE8 e15 hN zO (yAt n v:Nat) (yAu n:Nat) (v:Nat) (L:Nat)
  rw [g4] at this
  exact this
 have hsn2:(yAh r).length≤234*yAu n:=zO
 have hrl:=(yDk r zO).2
 have cre:=yFS (W:=W) (F:=F) hE16 hr zO zO
 have crp:Ct prog W 92 [zPp d,.int .i64 (yAK n:Nat),.int .i64 (yA2 n:Nat),.int .i64 (v:Nat)] [DiskP d D] (fun x:Option Addr × Nat=>.tuple #[.slice x.1 recs.length x.2,.nilIface]) (fun x=>[DiskP d D,lsP lrcC 9 1 (.slice x.1 recs.length x.2) recs]):=by
  have h:=yG4 (W:=W) (p:=d) (D:=D) hE8 hN (yAK n:Nat) (yA2 n:Nat) v zO ho ⟨zO,zO,zO,zO,zO,zO,zO⟩
  rw [g5,yEy] at h
  exact Ct.rowSl h
 have csi:=fun (q:Nat) (N:List Nd) (a:Option Addr) (b:Int) (hT:TbOk N a (lgR r recs recs.length))=>yEd (W:=W) (p:=q) (b:=b) hT hmax
 have qs:decide (((yAh (lgR r recs recs.length)).length:Nat)≤((234*yAu n:Nat):Int))=false:=zZ zO
 clear g4 g5
 refine Pn.enter func42 rfl ntmps42 zW (fun R=>?_)
 repeat' (first|(refine yAb ?_;first|refine xca crp fun x=>?_;obtain ⟨xa,xc⟩:=x|refine xca cre fun y=>?_;obtain ⟨q',⟨⟨N,a,b⟩,gN,hT⟩⟩:=y;dsimp only at gN hT ⊢|refine xca car fun _=>?_|refine xca cun fun _=>?_|refine xca csz fun _=>?_|refine xca (cd _) fun _=>?_|refine xca (cupt _) fun _=>?_|refine xca (cro _ _) fun _=>?_|refine xca cc fun _=>?_|refine xca (cu _) fun _=>?_|refine xca crd fun g=>?_|refine xca cm fun _=>?_|refine xca cr fun _=>?_)|(refine yAj ?_;first|refine yAa (yDm rfl xS (hx _)) ?_|refine yAa (yAn rfl e15) ?_)|refine yAa (yAg rfl w2) ?_|refine yAa (yAg rfl w1) ?_|refine yAa (yAZ rfl rfl zO hm) ?_|refine yAa (yAf rfl rfl qe) ?_|refine xst ?_|refine xsa ?_;intro _|refine xsb ?_ ?_<;>intro _<;>try omega|refine xsc ?_|refine xdr 8 yEZ ?_|refine xdr 9 yE0 ?_|refine xdr 12 yED ?_|refine xdr 21 yE1 ?_|refine xsd ?_ ?_|exact Rech.nil|fail)
 have hLv:Lv W lrcC 1 (lsP lrcC 9 1 (.slice xa recs.length xc) recs) xa recs:=Lv.own yCZ rfl
 refine yAz (fun x:{x:Nat × List Nd × Option Addr × Int//x.1≤recs.length∧TbOk x.2.1 x.2.2.1 (lgR r recs x.1)}=>[(0,zPp s),(3,.int .i64 (v:Nat)),(108,.slice xa recs.length xc),(109,.int .i64 (recs.length:Nat)),(110,.int .i64 (x.1.1:Nat))])
  (fun x=>[stP s d q' n 0 none life false,DiskP d D,tbP q' x.1.2.2.1 x.1.2.2.2,arP x.1.2.1,lsP lrcC 9 1 (.slice xa recs.length xc) recs]++R) (fun x=>recs.length-x.1.1) ⟨(0,N,a,b),zLA _,hT⟩ xB (xN) (fun ⟨(i,N2,a2,b2),hi,hT2⟩=>?_)
 dsimp only at hi hT2 ⊢
 by_cases hlt:i<recs.length
 ·have ql:decide ((i:Int)<(recs.length:Nat))=true:=zY zO
  obtain ⟨x,hx0⟩:∃ s,recs[i]? = some s:=⟨_,zLb zO⟩
  refine KJ.lvSome hLv xS zO (fun b0 of hab=>?_)
  subst hab
  have hoff:of+Int.toNat (i:Int)*1=of+i*1+0:=zW
  have hv0:(lrcC x)[0]? = some (strV x):=rfl
  have hxl:=hlen x (zLk hx0)
  have cde:=yFU (W:=W) (F:=F) x zO hE16
  have hdx:=hd2 x (zLk hx0)
  rw [hdx] at cde
  have hnx:=yCa r hx0
  have hll:=hrl2 i zO
  have hdl2:=yDn x
  have cba:=fun ya yc=>yCY (W:=W) (p:=q') (tb:=b2) hT2 _ ya yc (yAE x).1 (Lv.own (e:=60) (c:=yc) yBy rfl) zO
  rw [← hnx] at cba
  have hnn:yAr F 0=.nilIface:=rfl
  rw [hnn] at cde
  obtain ⟨os,hos⟩:∃ os,os=(yAE x).1:=⟨_,rfl⟩
  rw [← hos] at cde cba
  repeat' (first|(refine yAb ?_;first|refine xca (cba _ _) fun y=>?_;obtain ⟨⟨N3,a3,b3⟩,g3,t3⟩:=y;dsimp only at g3 t3 ⊢|refine xca cc fun _=>?_|refine xca cde fun y=>?_;obtain ⟨ya,yc⟩:=y)|refine yAj ?_;refine yAa (yBh yCZ hLv rfl rfl xS hoff hx0 hv0) ?_|refine yAa (yAd (r:=((i+1:Nat):Int)) rfl rfl zO zO) ?_|refine yAa (yAc rfl rfl ql) ?_|refine xst ?_|refine xsa ?_;intro _|refine xsb ?_ ?_<;>intro _<;>try omega|refine xsc ?_|refine xdr 8 yEZ ?_|refine xdr 9 yE0 ?_|refine xdr 12 yED ?_|refine xdr 21 yE1 ?_|refine xsd ?_ ?_|exact Rech.nil|fail)
  all_goals refine yAp ⟨(i+1,N3,a3,b3),zO,t3⟩ (by show recs.length-(i+1)<recs.length-i;omega) xB (xN)
 ·have ql:decide ((i:Int)<(recs.length:Nat))=false:=zZ zO
  obtain rfl:i=recs.length:=zO
  repeat' (first|refine yAw (id:=21) ?_;refine yCO ?_|refine yAa (yAc rfl rfl ql) ?_|refine xst ?_|refine xsa ?_;intro _|refine xsb ?_ ?_<;>intro _<;>try omega|refine xsc ?_|refine xdr 8 yEZ ?_|refine xdr 9 yE0 ?_|refine xdr 12 yED ?_|refine xdr 21 yE1 ?_|refine xsd ?_ ?_|exact Rech.nil|fail)
  refine Hold.mk ?_
  refine yRl ?_
  refine yHY 9 (.op 0 (.op 1 (.op 2 (.op 3 (.op 4 (.op 5 (.op 6 (.op 7 (.op 8 .nil))))))))) zK rfl zK ?_
  refine yBD rfl (yEH (yHt rfl) rfl ?_)
  refine yBD rfl (yEH (yGg rfl) rfl ?_)
  refine yBD rfl (yEH (yKX rfl) rfl ?_)
  refine yBD rfl (yEH (yDm rfl xS (by rfl)) rfl ?_)
  refine yBD rfl (yA5 (X:=Unit) xE (csi _ _ _ _ hT2) xP rfl ?_)
  refine yBD rfl (yEH (yHt rfl) rfl ?_)
  refine yBD rfl (yA5 (X:=Unit) xE (cro _ _) xP rfl ?_)
  refine yBD rfl (yEH (yAS rfl rfl qs) rfl ?_)
  refine yBD rfl (yEH (yAn rfl e15) rfl ?_)
  refine yOR (yLU xE cup xP (fun _=>?_))
  refine KJ.pnSeq ?_
  exact yBo () rfl (xN)
end
theorem yYv (x:List UInt8):yDS opW (yAE x).1≤x.length:=by
 rcases yIg x with ⟨_,h⟩|⟨n,t,os,h1,h2,h3⟩
 ·rw [h];exact zLA _
 ·rw [h3]
  have e1:=congrArg List.length (yGO h1).1
  have e2:=congrArg List.length (yHK n h2).1
  have e3:(yDR os).length=yDS opW os:=yJB yDw os
  simp only [zLa] at e1 e2
  dsimp only
  omega
theorem yPJ {r0:Rows} (h:RisR r0) (recs:List (List UInt8)):∀ i,RisR (lgR r0 recs i):=by
 intro i
 induction i with
 |zero=>exact h
 |succ i ih=>
  cases hx:recs[i]? with
  |none=>
   have e:lgR r0 recs (i+1)=lgR r0 recs i:=by
    unfold lgR
    have:=List.getElem?_eq_none_iff.1 hx
    rw [zLi zO,zLi zO]
   rw [e]
   exact ih
  |some x=>rw [yCa r0 hx];exact yHE ih _
theorem yOF {r0:Rows} (h:RisR r0) (recs:List (List UInt8)) (hlen:∀ x ∈ recs,x.length≤15269888) (hcn:recs.length≤65537) (hr:(yAh r0).length≤15335424):(yAh (lgR r0 recs recs.length)).length≤4611686018427387904:=by
 have key:∀ i,i≤recs.length→yDS yIj (lgR r0 recs i)≤15335424+i*15269888:=by
  intro i
  induction i with
  |zero=>
   intro _
   have:=yFV r0
   show yDS yIj r0≤_
   omega
  |succ i ih=>
   intro hi
   obtain ⟨x,hx⟩:∃ x,recs[i]? = some x:=⟨_,zLb zO⟩
   have h1:=yKy (yPJ h recs i) (yAE x).1
   have h2:=yYv x
   have h3:=hlen x (zLk hx)
   have h4:=ih zO
   rw [yCa r0 hx,zLH]
   omega
 have h1:=key recs.length (Nat.le_refl _)
 have h2:=yFV (lgR r0 recs recs.length)
 have h3:=yBO (lgR r0 recs recs.length).length
 have:recs.length*15269888≤65537*15269888:=zLt _ zO
 omega
section
variable {W:World} {F:Nat→Addr} {q s d n g:Nat} {D:Dsk} {r:Rows}
theorem yFF (h1:64≤n) (h2:n≤65536) (hn:D.n=n) (ho:D.off=false) (e:Nat) (hne:e≠0)
 (clo:∀ s q,Pn prog W 42 [zPp s] [stP s d q n 0 none D.life false,DiskP d D] (fun _:Unit=>brk F e) (fun _=>[DiskP d D])) :
 CtU prog W 18 [zPp d] [DiskP d D] (.tuple #[.pointer none,yAr F e]) [DiskP d D]:=by
 have csz:CtU prog W 25 [zPp d] [DiskP d D] (.int .i64 (n:Nat)) [DiskP d D]:=by
  have:=yBs (W:=W) (p:=d) (D:=D)
  rw [hn] at this
  exact this
 have cof:CtU prog W 26 [zPp d] [DiskP d D] (.bool false) [DiskP d D]:=by
  have:=yD5 (W:=W) (p:=d) (D:=D)
  rw [ho] at this
  exact this
 have cov:=yFw (W:=W) (d:=d) (D:=D) h1 h2 hn
 have q1:decide ((n:Int)<64)=false:=zZ zO
 refine Ct.enter func18 rfl ntmps18 zW (fun R=>?_)
 refine KJ.lift0 ?_
 repeat' (first|refine KJ.liftCallPn rfl xE (clo _ _) xP (fun _=>?_)|refine KJ.liftPnSeq ?_|refine KJ.liftPnBlk ?_|refine KJ.liftDeferF rfl (Evs.cons (v:=(zPp _)) rfl Evs.nil) ?_|refine KJ.liftDeferV rfl rfl xE ?_|refine KJ.liftStp (by constructor) ?_|refine KJ.liftCondT rfl ?_|refine KJ.liftCondF rfl ?_|refine KJ.liftOper ?_|(refine yAs ?_;first|refine yAq (d:=3) rfl (fun ge=>?_)|refine yAq (d:=2) rfl (fun gs=>?_))|(refine yAb ?_;first|refine xca cov fun x=>?_;obtain ⟨s,q⟩:=x|refine xca cof fun _=>?_|refine xca csz fun _=>?_)|refine yCQ ?_;refine yAa (yCN rfl rfl) ?_|refine yAa (yAc rfl rfl q1) ?_|refine xst ?_|refine xsa ?_;intro _|refine xsb ?_ ?_<;>intro _<;>try omega|refine xsc ?_|refine xdr 2 yIl ?_|refine KJ.liftDraws (id:=2) yIl zK zK ?_|refine xdr 4 yIl ?_|refine KJ.liftDraws (id:=4) yIl zK zK ?_|refine xdr 9 yPI ?_|refine KJ.liftDraws (id:=9) yPI zK zK ?_|refine xsd ?_ ?_|exact Rech.nil|fail)
 all_goals exact KJ.liftDonePn2 (v1:=[zPp ge,zPp gs]) (v2:=[zPp ge]) rfl rfl (yMZ ge gs s e hne) (yMY ge e hne) xP xP rfl (Rvs.cell rfl inferInstance xS rfl (Rvs.cell rfl inferInstance xS rfl Rvs.nil)) () (by rfl) (xN)
theorem yNg (e:Nat) (he:e≠0) (hE:ErrsOn L16 W F) (hE8:ErrsOn L8 W F) (hN:NibAt W) (h1:64≤n) (h2:n≤65536) (hr:RisR r) (hsn:(yAh r).length≤234*yAu n) (v:Nat) (hv:1≤v∧v≤1099511627776) (hR:Still D) (hn:D.n=n) (hG:yA9 D 0=0∧yBC D 0=v∧yBt D 0=yBd n (yAh r).length∧yBH D (yAt n v) (yAu n) v (yAh r).length=(yAh r,0))
 (recs:List (List UInt8)) (g0:yEY D (yAK n:Nat) (yA2 n:Nat) v ((((yA2 n:Nat):Int).toNat)+1) 0 []=recs) (hdec:∀ x ∈ recs,(yAE x).2=0∧x.length≤4398046511104) (hrl2:∀ i x,recs[i]? = some x→(lgR r recs i).length+(yAE x).1.length≤144115188075855872) (hcn:recs.length≤4611686018427387904) {D2:Dsk} (rr:Rows) (hrr:lgR r recs recs.length=rr) (hfin:(yAh rr).length≤234*yAu n)
 (hfo:∀ (s q:Nat) (N:List Nd) (a:Option Addr) (b:Int),TbOk N a rr→CtU prog W 32 [zPp s] [stP s d q n (v:Nat) none D.life false,DiskP d D,tbP q a b,arP N] (yAr F e) [DiskP d D2]) :
 CtU prog W 18 [zPp d] [DiskP d D] (.tuple #[.pointer none,yAr F e]) [DiskP d D2]:=by
 have hA:=yA8 (n:=n) zO
 obtain ⟨f1,f2,f3,f4⟩:=yAO h1 0
 have ho:=hR.on
 have hu:=hR.und
 have csz:CtU prog W 25 [zPp d] [DiskP d D] (.int .i64 (n:Nat)) [DiskP d D]:=by
  have:=yBs (W:=W) (p:=d) (D:=D)
  rw [hn] at this
  exact this
 have cof:CtU prog W 26 [zPp d] [DiskP d D] (.bool false) [DiskP d D]:=by
  have:=yD5 (W:=W) (p:=d) (D:=D)
  rw [ho] at this
  exact this
 have cov:=yFw (W:=W) (d:=d) (D:=D) h1 zO hn
 have clo:=fun s q=>yM1 (W:=W) (s:=s) (d:=d) (q:=q) (D:=D) hE hE8 hN h1 h2 hr hsn v hv D.life hn ho hG recs g0 hdec hrl2 hcn (by rw [hrr];exact hfin)
 rw [hrr] at clo
 have ho1:=fun ge gs s=>yQ8 (W:=W) (F:=F) ge gs s e he
 obtain ⟨ea,hea⟩:=yCW (E:=F) he
 simp only [hea] at ho1 hfo ⊢
 have cfo:=hfo
 have q1:decide ((n:Int)<64)=false:=zZ zO
 clear hG hfo
 refine Ct.enter func18 rfl ntmps18 zW (fun R=>?_)
 refine KJ.lift0 ?_
 repeat' (first|refine KJ.liftDeferF rfl (Evs.cons (v:=(zPp _)) rfl Evs.nil) ?_|refine KJ.liftDeferV rfl rfl xE ?_|refine KJ.liftStp (by constructor) ?_|refine KJ.liftCondT rfl ?_|refine KJ.liftCondF rfl ?_|refine KJ.liftOper ?_|(refine yAs ?_;first|refine yAq (d:=3) rfl (fun ge=>?_)|refine yAq (d:=2) rfl (fun gs=>?_))|(refine yAb ?_;first|refine xca (cfo _ _ _ _ _ hT) fun _=>?_|refine xca (clo _ _) fun y=>?_;obtain ⟨q',⟨⟨N,a,b⟩,gN,hT⟩⟩:=y;dsimp only at gN hT ⊢|refine xca cov fun x=>?_;obtain ⟨s,q⟩:=x|refine xca cof fun _=>?_|refine xca csz fun _=>?_)|refine yCQ ?_;refine yAa (yCN rfl rfl) ?_|refine yAa (yAc rfl rfl q1) ?_|refine xst ?_|refine xsa ?_;intro _|refine xsb ?_ ?_<;>intro _<;>try omega|refine xsc ?_|refine xdr 2 yIl ?_|refine KJ.liftDraws (id:=2) yIl zK zK ?_|refine xdr 4 yIl ?_|refine KJ.liftDraws (id:=4) yIl zK zK ?_|refine xdr 9 yPI ?_|refine KJ.liftDraws (id:=9) yPI zK zK ?_|refine xsd ?_ ?_|exact Rech.nil|fail)
 all_goals exact KJ.liftDone2R (v1:=[zPp ge,zPp gs]) (v2:=[zPp ge]) rfl rfl (ho1 ge gs s) (yJw ge) xP xP (.inl rfl) rfl (Rvs.cell rfl inferInstance xS rfl (Rvs.cell rfl inferInstance xS rfl Rvs.nil)) () (by rfl) (xN)
theorem yT5 (hE:ErrsAt W F) (hN:NibAt W) (h1:64≤n) (h2:n≤65536) (hn:D.n=n) (ho:D.off=false) (e:Nat) (hB:Bad n D e) :
 CtU prog W 18 [zPp d] [DiskP d D] (.tuple #[.pointer none,yAr F e]) [DiskP d D]:=by
 have hlA:yAu n≤65536:=by unfold yAu;omega
 have hlN:yA2 n≤65536:=by unfold yA2;omega
 have rl:=fun (v:Nat)=>yHk (D:=D) (at_:=(yAK n:Nat)) (n:=(yA2 n:Nat)) (ver:=v) (((yA2 n:Nat):Int).toNat+1) 0 [] 0 (fun x hx=>by cases hx) (Nat.le_refl _)
 cases hB with
 |slot e h hne=>exact yM0 (W:=W) (F:=F) (d:=d) hE.to16.to8 hN h1 h2 hn ho e h hne
 |hdr h hh=>exact yFF h1 h2 hn ho 15 zO fun s q=>yT0 hE hN h1 h2 _ hn h hh
 |area v k h hv v1 hh hk ha=>exact yFF h1 h2 hn ho 15 zO fun s q=>yT1 hE hN h1 h2 _ hn v k v1 hk h hv hh ha
 |rows v k s h hv v1 hh hk ha hs hr=>exact yFF h1 h2 hn ho 15 zO fun s' q=>yT2 hE hN h1 h2 _ hn v k v1 hk h hv hh s zO hr ha
 |bat v r0 recs i h hv v1 hh hk ha hr rp hi hb hg=>
  obtain ⟨l1,l2⟩:=rl v
  rw [rp] at l1 l2
  exact yFF h1 h2 hn ho 15 zO fun s q=>yT3 hE hN h1 h2 _ hn v hr v1 hk h hv hh ho ha recs rp (fun x hx=>by have:=l1 x hx;omega) zO i hi hb hg
 |room v r0 recs h hv v1 hh hk ha hr rp hd hb=>
  obtain ⟨l1,l2⟩:=rl v
  rw [rp] at l1 l2
  exact yFF h1 h2 hn ho 15 zO fun s q=>yT4 hE hN h1 h2 _ hn v hr v1 hk h hv hh ho ha recs rp (fun x hx=>by have:=l1 x hx;omega) zO hd hb (yOF hr _ (fun x hx=>by have:=l1 x hx;omega) zO zO)
end
structure FoldW (D:Dsk) (n v:Nat) (r:Rows):Prop where
 way:(yCk D n v r=0∧Still (yBx D n v r))∨(yCk D n v r=12∧(yBx D n v r).off=true)
 nn:(yBx D n v r).n=n
 ok:(yBx D n v r).ok
 life:(yBx D n v r).life=D.life
 und:(yBx D n v r).und.length≤65536
theorem yHp {D:Dsk} {n:Nat} (hst:Still D) (hn:D.n=n) (h1:64≤n) (h2:n≤65536) (v:Nat) (hv:v+1≤1099511627776) (r:Rows) (hroom:(yAh r).length≤234*yAu n):FoldW D n v r:=by
 have hlA:yAu n≤65536:=by unfold yAu;omega
 obtain ⟨a1,a2,a3,a4,a5⟩:=yFE hst (yAt n (v+1)) (yAu n) (v+1) (yAh r) (by have:=yAO h1 (v+1);omega) zO hroom hlA
 have hh2:(yBd n (yAh r).length).length≤234:=Nat.le_trans (yB3 _ _) zO
 have hA:(yA7 D (yAt n (v+1)) (yAu n) ((v+1:Nat):Int) (yAh r)).2=yCl D n (v+1) r:=rfl
 have hD:yA6 (yCl D n (v+1) r) ((0:Nat):Int) ((v+1:Nat):Int) (yBd n (yAh r).length)=yDU D n (v+1) r:=rfl
 rw [hA] at a2 a3 a4 a5
 rcases a1 with ⟨e0,s0,-,-⟩|⟨e0,o1,-⟩
 ·rw [hA] at s0
  have eE:yCk D n v r=yBu (yCl D n (v+1) r) 0 ((v+1:Nat):Int) (yBd n (yAh r).length):=by unfold yCk;rw [if_neg (by rw [e0];simp)]
  have eW:yBx D n v r=yDU D n (v+1) r:=by unfold yBx;rw [if_neg (by rw [e0];simp)]
  obtain ⟨b1,b2,b3,b4,b5⟩:=yHo (D:=yCl D n (v+1) r) s0 0 (v+1) (yBd n (yAh r).length) zO zO zO hh2
  rw [hD] at b1 b2 b3 b4 b5
  refine ⟨?_,by rw [eW,b2,a2,hn],by rw [eW];exact b3,by rw [eW,b4,a4],by rw [eW];omega⟩
  rcases b1 with ⟨g0,g1,-,-⟩|⟨g0,g1,-⟩
  ·exact .inl ⟨by rw [eE];exact g0,by rw [eW];exact g1⟩
  ·exact .inr ⟨by rw [eE];exact g0,by rw [eW];exact g1⟩
 ·have eE:yCk D n v r=12:=by unfold yCk;rw [if_pos (by rw [e0];simp),e0]
  have eW:yBx D n v r=yCl D n (v+1) r:=by unfold yBx;rw [if_pos (by rw [e0];simp)]
  rw [hA] at o1
  exact ⟨.inr ⟨eE,by rw [eW];exact o1⟩,by rw [eW,a2,hn],by rw [eW];exact a3,by rw [eW,a4],by rw [eW];omega⟩
section
variable {W:World} {F:Nat→Addr} {s d q n:Nat} {D:Dsk} {r:Rows} {N:List Nd} {a:Option Addr} {b:Int}
theorem yT6 (hE8:ErrsOn L8 W F) (hN:NibAt W) (h1:64≤n) (h2:n≤65536) (hst:Still D) (hn:D.n=n) (v:Nat) (hv:v+1≤1099511627776) (lg:Option Addr) (life:Int) (hT:TbOk N a r) (hroom:(yAh r).length≤234*yAu n) :
 (yCk D n v r=12→CtU prog W 32 [zPp s] [stP s d q n (v:Nat) lg life false,DiskP d D,tbP q a b,arP N] (yAr F 12) [stP s d q n (v:Nat) lg life true,DiskP d (yBx D n v r),tbP q a b,arP N])∧
 (yCk D n v r=0→Ct prog W 32 [zPp s] [stP s d q n (v:Nat) lg life false,DiskP d D,tbP q a b,arP N] (fun _:Nat=>.nilIface) (fun g=>[stP s d q n ((v+1:Nat):Int) (some ⟨g,0,none⟩) life false,DiskP d (yBx D n v r),tbP q a b,arP N,yWz g d n (v+1) (yBx D n v r).life])):=by
 have hlA:yAu n≤65536:=by unfold yAu;omega
 have hul:D.und.length+65536<1073741823:=by rw [hst.und];simp
 obtain ⟨a1,a2,a3,a4,a5⟩:=yFE hst (yAt n (v+1)) (yAu n) (v+1) (yAh r) (by have:=yAO h1 (v+1);omega) zO hroom hlA
 have hh2:(yBd n (yAh r).length).length≤234:=Nat.le_trans (yB3 _ _) zO
 have hA:(yA7 D (yAt n (v+1)) (yAu n) ((v+1:Nat):Int) (yAh r)).2=yCl D n (v+1) r:=rfl
 have hD:yA6 (yCl D n (v+1) r) ((0:Nat):Int) ((v+1:Nat):Int) (yBd n (yAh r).length)=yDU D n (v+1) r:=rfl
 rw [hA] at a2
 rcases a1 with ⟨e0,s0,-,-⟩|⟨e0,o1,-⟩
 ·rw [hA] at s0
  have eE:yCk D n v r=yBu (yCl D n (v+1) r) 0 ((v+1:Nat):Int) (yBd n (yAh r).length):=by unfold yCk;rw [if_neg (by rw [e0];simp)]
  have eW:yBx D n v r=yDU D n (v+1) r:=by unfold yBx;rw [if_neg (by rw [e0];simp)]
  obtain ⟨b1,b2,b3,b4,b5⟩:=yHo (D:=yCl D n (v+1) r) s0 0 (v+1) (yBd n (yAh r).length) zO zO zO hh2
  rw [hD] at b1 b2
  rw [eE,eW]
  refine ⟨fun h=>?_,fun h=>?_⟩
  ·exact yNd (W:=W) (F:=F) (N:=N) (a:=a) (r:=r) (q:=q) (s:=s) (d:=d) (b:=b) (D:=D) hE8 hN h1 h2 v zO lg life false hT hn hroom hul e0 s0.und (by rw [a2,hn]) h
  ·rcases b1 with ⟨g0,g1,-,-⟩|⟨g0,g1,-⟩
   ·exact yHd (W:=W) (F:=F) (N:=N) (a:=a) (r:=r) (q:=q) (s:=s) (d:=d) (b:=b) (D:=D) hE8 hN h1 h2 v zO lg life false hT hn hroom hul e0 s0.und (by rw [a2,hn]) h g1.on (by rw [b2,a2,hn])
   ·have g0:yBu (yCl D n (v+1) r) 0 ((v+1:Nat):Int) (yBd n (yAh r).length)=12:=g0
    rw [h] at g0
    cases g0
 ·have eE:yCk D n v r=12:=by unfold yCk;rw [if_pos (by rw [e0];simp),e0]
  have eW:yBx D n v r=yCl D n (v+1) r:=by unfold yBx;rw [if_pos (by rw [e0];simp)]
  rw [eE,eW]
  exact ⟨fun _=>yNc (W:=W) (F:=F) (N:=N) (a:=a) (r:=r) (q:=q) (s:=s) (d:=d) (b:=b) (D:=D) hE8 hN h1 h2 v zO lg life false hT hn hroom hul e0,fun h=>by cases h⟩
theorem yT7 (hE:ErrsOn L16 W F) (v:Int) (hv:1099511627776≤v) (lg:Option Addr) (life:Int) (dead:Bool) :
 CtU prog W 32 [zPp s] [stP s d q n v lg life dead,DiskP d D,tbP q a b,arP N] (yAr F 16) [stP s d q n v lg life dead,DiskP d D,tbP q a b,arP N]:=by
 have e16:W.cell? ⟨18,0,none⟩=some (yAr F 16):=hE.at_ 16 zX
 have q1:decide ((1099511627776:Int)≤v)=true:=zY hv
 refine Ct.enter func32 rfl ntmps32 zW (fun R=>?_)
 repeat' (first|refine yAj ?_;refine yAa (yAn rfl e16) ?_|refine yAa (yAm rfl rfl q1) ?_|refine xst ?_|refine xsa ?_;intro _|refine xsb ?_ ?_<;>intro _<;>try omega|refine xsc ?_|refine xdr 3 yZS ?_|refine xdr 7 yZT ?_|refine xdr 10 yED ?_|refine xsd ?_ ?_|exact Rech.nil|exact xdn ()|fail)
def yRa (D:Dsk) (n v:Nat) (r:Rows):Nat:=if 1099511627776≤v then 16 else yCk D n v r
def yRi (D:Dsk) (n v:Nat) (r:Rows):Dsk:=if 1099511627776≤v then D else yBx D n v r
theorem yKF (hE:ErrsAt W F) (hN:NibAt W) (h1:64≤n) (h2:n≤65536) (hst:Still D) (hn:D.n=n) {r0:Rows} {recs:List (List UInt8)} {v:Nat} (hL:LiesO n D r0 recs v r) :
 (yRa D n v r≠0→CtU prog W 18 [zPp d] [DiskP d D] (.tuple #[.pointer none,yAr F (yRa D n v r)]) [DiskP d (yRi D n v r)])∧
 (yRa D n v r=0→Ct prog W 18 [zPp d] [DiskP d D] (fun x:Nat × (Nat × TbQ [] r) × Nat=>.tuple #[.pointer (some ⟨x.1,0,none⟩),.nilIface])
  (fun x=>[stP x.1 d x.2.1.1 n ((v+1:Nat):Int) (some ⟨x.2.2,0,none⟩) D.life false,DiskP d (yRi D n v r),tbP x.2.1.1 x.2.1.2.1.2.1 x.2.1.2.1.2.2,arP x.2.1.2.1.1,yWz x.2.2 d n (v+1) (yRi D n v r).life])):=by
 have hE16:ErrsOn L16 W F:=hE.to16
 have hE8:ErrsOn L8 W F:=hE16.to8
 have hlA:yAu n≤65536:=by unfold yAu;omega
 have hlN:yA2 n≤65536:=by unfold yA2;omega
 obtain ⟨l1,l2⟩:=yHk (D:=D) (at_:=(yAK n:Nat)) (n:=(yA2 n:Nat)) (ver:=v) (((yA2 n:Nat):Int).toNat+1) 0 [] 0 (fun x hx=>by cases hx) (Nat.le_refl _)
 rw [hL.rp] at l1 l2
 have hG:yA9 D 0=0∧yBC D 0=v∧yBt D 0=yBd n (yAh r0).length∧yBH D (yAt n v) (yAu n) v (yAh r0).length=(yAh r0,0):=⟨hL.e,hL.nv,hL.s,hL.area⟩
 have hdec:∀ x ∈ recs,(yAE x).2=0∧x.length≤4398046511104:=fun x hx=>⟨hL.dec x hx,by have:=l1 x hx;omega⟩
 have hA:=yA8 (n:=n) zO
 have hroom0:=hL.room0
 have hrl:∀ i,i≤recs.length→(lgR r0 recs i).length≤15335424+i*15269888:=by
  intro i
  induction i with
  |zero=>
   intro _
   have:=yCB r0
   have h9:(yAh r0).length=(vu r0.length).length+(r0.flatMap rowB).length:=(by unfold yAh;rw [zLa])
   show r0.length≤_
   omega
  |succ i ih=>
   intro hi
   obtain ⟨x,hx⟩:∃ x,recs[i]? = some x:=⟨_,zLb zO⟩
   have h1:=yCp (yAE x).1 (lgR r0 recs i)
   have h2:=yDn x
   have h3:=l1 x (zLk hx)
   have h4:=ih zO
   rw [yCa r0 hx,zLH]
   omega
 have hrl2:∀ i x,recs[i]? = some x→(lgR r0 recs i).length+(yAE x).1.length≤144115188075855872:=fun i x hx=>by
  have h3:=(zLc.1 hx).1
  have h4:=hrl i zO
  have h5:=yDn x
  have h6:=l1 x (zLk hx)
  have:i*15269888≤65537*15269888:=zLt _ zO
  omega
 have hroom:=hL.room
 unfold yRa yRi
 by_cases hw:1099511627776≤v
 ·rw [if_pos hw,if_pos hw]
  refine ⟨fun _=>?_,fun h=>by cases h⟩
  exact yNg (W:=W) (F:=F) (d:=d) (D:=D) 16 zO hE16 hE8 hN h1 h2 hL.ris0 hroom0 v hL.v1 hst hn hG recs hL.rp hdec hrl2 zO r hL.is_ hroom fun s q N a b hT=>
   (yT7 (W:=W) (F:=F) (s:=s) (d:=d) (q:=q) (n:=n) (D:=D) (N:=N) (a:=a) (b:=b) hE16 (v:Nat) zO none D.life false).to (fun _=>()) (fun _=>rfl) (fun _ R=>(xN))
 ·rw [if_neg hw,if_neg hw]
  have fe:=fun (s q:Nat) (N:List Nd) (a:Option Addr) (b:Int) (hT:TbOk N a r)=>yT6 (W:=W) (F:=F) (s:=s) (d:=d) (q:=q) (b:=b) (D:=D) (r:=r) hE8 hN h1 h2 hst hn v zO none D.life hT hroom
  refine ⟨fun h=>?_,fun h=>?_⟩
  ·rcases (yHp hst hn h1 h2 v zO r hroom).way with ⟨q,-⟩|⟨q,-⟩
   ·exact absurd q h
   ·rw [q]
    exact yNg (W:=W) (F:=F) (d:=d) (D:=D) 12 zO hE16 hE8 hN h1 h2 hL.ris0 hroom0 v hL.v1 hst hn hG recs hL.rp hdec hrl2 zO r hL.is_ hroom fun s q' N a b hT=>
     ((fe s q' N a b hT).1 q).to (fun _=>()) (fun _=>rfl) (fun _ R=>(xN))
  ·exact yTY (W:=W) (F:=F) (d:=d) (D:=D) hE16 hE8 hN h1 h2 hL.ris0 hroom0 v ⟨hL.v1.1,zO⟩ hst hn hG recs hL.rp hdec hrl2 zO r hL.is_ hroom fun s q N a b hT=>(fe s q N a b hT).2 h
end
end Go.Proofs.YtlnbkbfblhofbaaGreatDoor
