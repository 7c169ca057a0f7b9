/-
  TxD1, TxN1, TxD3, TxN5, SuG, SuK, SuM.
-/
import Derived.Test.YtoipmnikdiogcaaGreatDoorYIN
set_option maxHeartbeats 64000000
namespace Go.Proofs.YtoipmnikdiogcaaGreatDoor
open Go Go.RowKit
open Go.Proofs.Tryz
abbrev yMc:Pl:=(po [0,1,2,3,4,5] (.ef 6 [] (po [7,8,9,10,11] .nil)))
abbrev yMd:Pl:=(po [0,1,2,3,4,5,6,7,8,9] (.ef 10 [] (po [11,12,13,14,15] .nil)))
abbrev yMe:Pl:=(po [0,1,2,3,4,5,6,7,8,9,10,11,12,13,14,15,16,17,18,19] (.ef 20 [7,6,5,4,3,2,1,0] (.ef 21 [] (.op 22 .nil))))
abbrev yMf:Pl:=(po [0,1,2,3,5,6,7,8,9,10,11] (.ef 4 [11,10,9,8,7,6,5] (.ef 12 [] (.op 13 .nil))))
abbrev yMg:Pl:=(po [0,1,2,3,5,6,7,8,9,10,11] (.ef 4 [11,10,9,8,7,6,5] (.ef 12 [] (po [13,14,15,16,17,18,19,20,23,24,25,26,27,28] (.ef 21 [28,27,26,25,24,23,18,17,16,15] (.ef 22 [28,27,26,25,24,23] (.ef 29 [] (po [30,31,32,33,34,35,36,38,39,40,41] (.ef 37 [41,40,39,38] (.ef 42 [] (po [43,44,45,46,47,48,49,51,52,53,54] (.ef 50 [54,53,52,51] (.ef 55 [] (po [56,57,58,59,60,61,62,64,65,66,67,68,69,70] (.ef 63 [70,69,68,67,66,65,64] (po [71,72,73] .nil))))))))))))))))
abbrev zTIU0:List (Nat×Pl):=[(5,yMc),(6,yMd),(9,yMe),(11,yMf),(13,yMg)]
abbrev xCC (a:Option Addr) (n c:Nat):Value:=.agg #[.slice a n c]
section
variable {W:World} {a:Option Addr} {c:Nat} {l:Rows} {A:SP} {key val:zB}
instance xCo:FnIs prog 78:=⟨zK⟩
instance xDg:FnIs prog 35:=⟨zK⟩
theorem yWq (hA:Lv W rC 2 A a l) (hr:RisR l) (hl:l.length≤4611686018427387904) (key:zB) :CtU prog W 78 [xCC a l.length c,strV key] [A] (zi (fC l key:Nat)) [A]:=by
 obtain ⟨M,hM⟩:∃ M,M=fC l key:=⟨_,rfl⟩;have a7:=fun h=>yWp (r:=l) key h;have hgo:=fun (i:Nat) (p:zB × zB) (hp:l[i]? = some p)=>yYl hr hp key;rw [← hM] at a7 hgo ⊢;clear hM;refine zE func78 ntmps78 fun R=>?_;repeat' (first|refine zbx fun g=>?_|refine xst ?_|refine xsf ?_ ?_|intro _)
 refine yAC (fun i:{i:Nat//i≤l.length∧i≤M}=>[(1,strV key),(2,zPp g),(5,zi (i.1:Nat))])
  (fun _=>[A,yAj g [.slice a l.length c] 85]++R) (fun i=>l.length-i.1) ⟨0,zLA _,zLA _⟩ xB (xN) (fun ⟨i,hi,hp⟩=>?_)
 dsimp only at hi hp ⊢;by_cases hlt:i<l.length;rotate_left
 ·have ql:decide ((i:Int)<(l.length:Nat))=false:=zZ zO;have e:M=i:=by have h1:=a7 zO;omega
  repeat' (first|refine xqa ?_|refine xsf ?_ ?_|intro _)
  all_goals exact xdn () (hc:=by rw [e];rfl)
 have ql:decide ((i:Int)<(l.length:Nat))=true:=zY zO;obtain ⟨x,hx⟩:∃ s,l[i]? = some s:=⟨_,zLb hlt⟩;obtain ⟨g1,g2⟩:=hgo i x hx hp;refine KJ.lvSome hA xS zO (fun ba oa aJ=>?_);have bD:oa+Int.toNat (i:Int)*2+0=oa+i*2+0:=by rw [zLe]
 subst aJ;cases hb:Op.bytesLess x.1 key with
 |true=>
  repeat' (first|refine yAi ?_;refine yAa (yA0 (j:=0) yBp hA rfl rfl xS bD hx rfl) ?_|refine zad (i+1) ?_|refine xqa ?_|refine xsf ?_ ?_|intro _)
  all_goals refine yAs ⟨i+1,hlt,g1 hb⟩ (by show l.length-(i+1)<l.length-i;omega) xB (xN)
 |false=>
  have e:=g2 hb;repeat' (first|refine yAi ?_;refine yAa (yA0 (j:=0) yBp hA rfl rfl xS bD hx rfl) ?_|refine xqa ?_|refine xsf ?_ ?_|intro _)
  all_goals exact xdn () (hc:=by rw [e];rfl)
theorem xAV (hA:Lv W rC 2 A a l) (hr:RisR l) (hl:l.length≤4611686018427387904) (key:zB) :CtU prog W 35 [xCC a l.length c,strV key] [A] (.tuple #[strV ((lk l key).getD []),.bool (lk l key).isSome]) [A]:=by
 have cp:=yWq (W:=W) (c:=c) hA hr hl key;obtain ⟨p1,p2,p3⟩:=yWo hr key;have ple:fC l key≤l.length:=yJh l key;obtain ⟨i,hi⟩:∃ i,i=fC l key:=⟨_,rfl⟩;rw [← hi] at cp p1 p2 p3 ple;refine zE func35 ntmps35 fun R=>?_;by_cases hlt:i<l.length;rotate_left
 ·have ql:decide ((i:Int)<(l.length:Nat))=false:=zZ zO;rw [p3 (List.getElem?_eq_none zO)];repeat' (first|refine zbx fun g=>?_|refine xqa ?_|refine xsf ?_ ?_|exact xdn ()|intro _)
 have ql:decide ((i:Int)<(l.length:Nat))=true:=zY zO;obtain ⟨x,hx⟩:∃ s,l[i]? = some s:=⟨_,zLb hlt⟩;refine KJ.lvSome hA xS zO (fun ba oa aJ=>?_);have bD:oa+Int.toNat (i:Int)*2+0=oa+i*2+0:=by rw [zLe]
 have dK:oa+Int.toNat (i:Int)*2+1=oa+i*2+1:=by rw [zLe]
 subst aJ;by_cases e:x.1=key
 ·rw [p1 x hx e];repeat' (first|refine zbx fun g=>?_|(refine yAi ?_;first|refine yAa (yA0 (j:=0) yBp hA rfl rfl xS bD hx rfl) ?_|refine yAa (yA0 (j:=1) yBp hA rfl rfl xS dK hx rfl) ?_)|refine yAt ?_;refine yAa (yHG rfl rfl e) ?_|refine xqa ?_|refine xsf ?_ ?_|exact xdn ()|intro _)
 ·rw [p2 x hx e];repeat' (first|refine zbx fun g=>?_|refine yAi ?_;refine yAa (yA0 (j:=0) yBp hA rfl rfl xS bD hx rfl) ?_|refine yAt ?_;refine yAa (yUc rfl rfl e) ?_|refine xqa ?_|refine xsf ?_ ?_|exact xdn ()|intro _)
end
section
variable {W:World} {M:List Nd} {F:Nat→Addr} {r r0:Rows} {Rs:List Rows} {t s m n k:Nat} {K:List (zB × Bool)} {U:List UE}
def RgN (M:List Nd) (a:Option Addr) (lo hi:zB) (l:Rows):Prop:=∃ (tr:Tr) (r:Rows),RgOk M a tr lo hi (ySy hi (yE7 lo r))∧tr.frm lo=yE7 lo r∧RisR r∧l=yE8 lo hi r
theorem RgN.mono {N:List Nd} {a:Option Addr} {lo hi:zB} {l:Rows} (h:RgN M a lo hi l) (hs:∀ x ∈ M,x ∈ N):RgN N a lo hi l:=by obtain ⟨tr,r,h1,h2,h3,h4⟩:=h;exact ⟨tr,r,h1.mono hs,h2,h3,h4⟩
end
section
variable {W:World} {A B:SP} {ba sa:Option Addr} {bc sc:Nat} {l:Rows} {S:List BOp}
theorem drop_at {α:Type} {l:List α} {i:Nat} {p:α} (h:l[i]? = some p):(l.drop i)[0]? = some p:=by rw [zLC];exact h
end
theorem RgN.out {M:List Nd} {a:Option Addr} {lo hi:zB} {l:Rows} (h:RgN M a lo hi l):∃ (tr:Tr) (m:Nat),RgOk M a tr lo hi m∧m=l.length∧∀ i p,(tr.frm lo)[i]? = some p→i<m→l[i]? = some p:=by
 obtain ⟨tr,r,h1,h2,h3,h4⟩:=h;refine ⟨tr,_,h1,?_,fun i p hp hi=>?_⟩
 ·rw [h4,yHu h3,zLg,Nat.min_eq_left (yNb ..)]
 ·rw [h4,yHu h3,List.getElem?_take_of_lt hi,← h2];exact hp
theorem yLq {p:zB × zB→Bool} {l:Rows} {i:Nat} {x:zB × zB} (h:l[i]? = some x):(l.take (i+1)).filter p=(l.take i).filter p++(if p x=true then [x] else []):=by rw [List.take_add_one,h,List.filter_append];cases hp:p x <;> simp [hp]
section
variable {W:World} {A B:SP} {ba sa:Option Addr} {bc sc:Nat} {l:Rows}
instance xCD:FnIs prog 80:=⟨zK⟩
instance xCp:FnIs prog 37:=⟨zK⟩
theorem yYm (hA:Lv W rC 2 A ba l) (hl:l.length≤1000000000) (lo:zB) :Ct prog W 80 [xCC ba l.length bc,strV lo] [A] (fun x:Option Addr × Nat=>.slice x.1 (yE7 lo l).length x.2) (fun x=>[A,roP x (yE7 lo l)]):=by
 unfold yE7;refine zE func80 ntmps80 fun R=>?_;repeat' (first|refine zbx fun g2=>?_|refine yAD ?_;refine yCC rfl (fun g0=>?_)|refine xst ?_|refine xsf ?_ ?_|intro _)
 refine yAC (fun x:{x:Nat × Option Addr × Nat//x.1≤l.length}=>[(1,strV lo),(2,zPp g2),(5,.slice x.1.2.1 ((l.take x.1.1).filter (fun p=>!Op.bytesLess p.1 lo)).length x.1.2.2),(10,.slice ba l.length bc),(11,zi (l.length:Nat)),(12,zi (x.1.1:Nat))])
  (fun x=>[A,yAj g2 [.slice ba l.length bc] 85,roP x.1.2 ((l.take x.1.1).filter (fun p=>!Op.bytesLess p.1 lo))]++R) (fun x=>l.length-x.1.1) ⟨(0,some ⟨g0,0,none⟩,0),zLA _⟩ xB (xN) (fun ⟨(i,ya,yc),js⟩=>?_)
 dsimp only at js ⊢;by_cases hlt:i<l.length;rotate_left
 ·have ql:decide ((i:Int)<(l.length:Nat))=false:=zZ zO;obtain rfl:i=l.length:=zO;rw [List.take_length];repeat' (first|refine xqa ?_|refine xsf ?_ ?_|intro _)
  all_goals (exact xdn (ya,yc))
 have ql:decide ((i:Int)<(l.length:Nat))=true:=zY zO;obtain ⟨x,hx⟩:∃ s,l[i]? = some s:=⟨_,zLb hlt⟩;have ax:=yLq (p:=(fun p=>!Op.bytesLess p.1 lo)) hx;have eR:(l.take i).length≤i:=List.length_take_le ..;have bI:((l.take i).filter (fun p=>!Op.bytesLess p.1 lo)).length≤(l.take i).length:=List.length_filter_le ..;refine KJ.lvSome hA xS zO (fun bb oa aJ=>?_);have bD:oa+Int.toNat (i:Int)*2=oa+i*2:=by rw [zLe]
 subst aJ;obtain ⟨T,hT⟩:∃ T,T=(l.take i).filter (fun p=>!Op.bytesLess p.1 lo):=⟨_,rfl⟩;rw [← hT] at ax bI ⊢;have m1:(T.length+1)*32≤140737488355328:=zO;have m2:T.length+1≤9223372036854775807:=zO;cases hq:(!Op.bytesLess x.1 lo) with
 |false=>
  rw [hq,if_neg zX,zLs] at ax;repeat' (first|refine zal fun g=>?_|refine yAi ?_;refine yAa (yBa yBp hA rfl rfl xS bD hx) ?_|refine zad (i+1) ?_|refine xqa ?_|refine xsf ?_ ?_|intro _)
  all_goals refine yAs ⟨(i+1,ya,yc),hlt⟩ (by show l.length-(i+1)<l.length-i;omega) (by rw [ax];exact xB) (by rw [ax];exact (xN))
 |true=>
  rw [hq,if_pos rfl] at ax;repeat' (first|refine zal fun g=>?_|refine yAQ ?_;refine yBm (l:=T) (a:=x) yBp rfl rfl rfl xS xS m1 m2 rfl (fun g' c'=>?_)|refine yAD ?_;refine yAK rfl xF (by rfl) zO rfl (fun gb=>?_);show KJ W _ _ _ (yAj gb (rC x) 64::_)|refine yAi ?_;refine yAa (yBa yBp hA rfl rfl xS bD hx) ?_|refine zad (i+1) ?_|refine xqa ?_|refine xsf ?_ ?_|intro _)
  all_goals refine yAs ⟨(i+1,some ⟨g',0,none⟩,c'),hlt⟩ (by show l.length-(i+1)<l.length-i;omega) (by rw [ax];exact xB) (by rw [ax];exact (xN))
theorem yWr (hA:Lv W rC 2 A ba l) (hl:l.length≤1000000000) (lo hi:zB) :Ct prog W 37 [xCC ba l.length bc,strV lo,strV hi] [A] (fun x:Option Addr × Nat=>.slice x.1 (yE8 lo hi l).length x.2) (fun x=>[A,roP x (yE8 lo hi l)]):=by
 have cF:=yYm (W:=W) (bc:=bc) hA hl lo;have gd:(yE7 lo l).length≤l.length:=List.length_filter_le ..;unfold yE8;obtain ⟨m,hm⟩:∃ m,m=yE7 lo l:=⟨_,rfl⟩;rw [← hm] at cF gd ⊢;clear hm;refine zE func37 ntmps37 fun R=>?_;repeat' (first|refine zbx fun g3=>?_|refine xca cF fun z=>?_;obtain ⟨xa,xc⟩:=z|refine yAD ?_;refine yCC rfl (fun g0=>?_)|refine xst ?_|refine xsf ?_ ?_|intro _)
 have hB:Lv W rC 2 (roP (xa,xc) m) xa m:=Lv.own (e:=64) (c:=xc) yBp rfl
 refine yAC (fun x:{x:Nat × Option Addr × Nat//x.1≤m.length}=>[(1,strV lo),(2,strV hi),(3,zPp g3),(7,.slice x.1.2.1 ((m.take x.1.1).filter (fun p=>Op.bytesLess p.1 hi)).length x.1.2.2),(13,.slice xa m.length xc),(14,zi (m.length:Nat)),(15,zi (x.1.1:Nat))])
  (fun x=>[A,roP (xa,xc) m,yAj g3 [.slice ba l.length bc] 85,roP x.1.2 ((m.take x.1.1).filter (fun p=>Op.bytesLess p.1 hi))]++R) (fun x=>m.length-x.1.1) ⟨(0,some ⟨g0,0,none⟩,0),zLA _⟩ xB (xN) (fun ⟨(i,ya,yc),js⟩=>?_)
 dsimp only at js ⊢;by_cases hlt:i<m.length;rotate_left
 ·have ql:decide ((i:Int)<(m.length:Nat))=false:=zZ zO;obtain rfl:i=m.length:=zO;rw [List.take_length];repeat' (first|refine xqa ?_|refine xsf ?_ ?_|intro _)
  all_goals (exact xdn (ya,yc))
 have ql:decide ((i:Int)<(m.length:Nat))=true:=zY zO;obtain ⟨x,hx⟩:∃ s,m[i]? = some s:=⟨_,zLb hlt⟩;have ax:=yLq (p:=(fun p=>Op.bytesLess p.1 hi)) hx;have eR:(m.take i).length≤i:=List.length_take_le ..;have bI:((m.take i).filter (fun p=>Op.bytesLess p.1 hi)).length≤(m.take i).length:=List.length_filter_le ..;refine KJ.lvSome hB xS zO (fun bb oa aJ=>?_);have bD:oa+Int.toNat (i:Int)*2=oa+i*2:=by rw [zLe]
 subst aJ;obtain ⟨T,hT⟩:∃ T,T=(m.take i).filter (fun p=>Op.bytesLess p.1 hi):=⟨_,rfl⟩;rw [← hT] at ax bI ⊢;have m1:(T.length+1)*32≤140737488355328:=zO;have m2:T.length+1≤9223372036854775807:=zO;cases hq:(Op.bytesLess x.1 hi) with
 |false=>
  rw [hq,if_neg zX,zLs] at ax;repeat' (first|refine zal fun g=>?_|refine yAi ?_;refine yAa (yBa yBp hB rfl rfl xS bD hx) ?_|refine zad (i+1) ?_|refine xqa ?_|refine xsf ?_ ?_|intro _)
  all_goals refine yAs ⟨(i+1,ya,yc),hlt⟩ (by show m.length-(i+1)<m.length-i;omega) (by rw [ax];exact xB) (by rw [ax];exact (xN))
 |true=>
  rw [hq,if_pos rfl] at ax;repeat' (first|refine zal fun g=>?_|refine yAQ ?_;refine yBm (l:=T) (a:=x) yBp rfl rfl rfl xS xS m1 m2 rfl (fun g' c'=>?_)|refine yAD ?_;refine yAK rfl xF (by rfl) zO rfl (fun gb=>?_);show KJ W _ _ _ (yAj gb (rC x) 64::_)|refine yAi ?_;refine yAa (yBa yBp hB rfl rfl xS bD hx) ?_|refine zad (i+1) ?_|refine xqa ?_|refine xsf ?_ ?_|intro _)
  all_goals refine yAs ⟨(i+1,some ⟨g',0,none⟩,c'),hlt⟩ (by show m.length-(i+1)<m.length-i;omega) (by rw [ax];exact xB) (by rw [ax];exact (xN))
end
theorem xAW {N:List Nd} {a:Option Addr} {r:Rows} (h:TbOk N a r) (lo hi:zB):∃ (t:Tr) (m:Nat),RgOk N a t lo hi m∧(yE8 lo hi r).length=m∧∀ i p,(t.frm lo)[i]? = some p→i<m→(yE8 lo hi r)[i]? = some p:=by obtain ⟨t,h1,h2⟩:=xDe h lo hi;have ht:=yHu h.ris lo hi;have bI:=yNb hi (yE7 lo r);refine ⟨t,_,h1,by rw [ht,zLg];omega,fun i p hp him=>?_⟩;rw [h2] at hp;rw [ht,List.getElem?_take,if_pos him];exact hp
section
variable {W:World} {g d p n s q t:Nat} {N:List Nd} {a:Option Addr} {b:Int} {r:Rows}
instance xA7:FnIs prog 8:=⟨zK⟩
instance xAX:FnIs prog 36:=⟨zK⟩
theorem yQk (v:Int) (lg:Option Addr) (life:Int) (dead:Bool) (hT:TbOk N a r) (lo hi:zB) (wa:Option Addr) (wc:Nat) (hl:(yE8 lo hi r).length≤100000000) :CtU prog W 36 [zPp s,strV lo,strV hi,.slice wa (yE8 lo hi r).length wc] [roP (wa,wc) (yE8 lo hi r),stP s d q n v lg life dead,tbP q a b,arP N] (.bool true) [roP (wa,wc) (yE8 lo hi r),stP s d q n v lg life dead,tbP q a b,arP N]:=by
 have cr:=yWn (W:=W) (s:=s) (d:=d) (q:=q) (n:=n) (a:=a) (b:=b) v lg life dead lo hi;obtain ⟨tr,m,hRg,hm,cJ⟩:=xAW hT lo hi;obtain ⟨w,hw⟩:∃ w,w=yE8 lo hi r:=⟨_,rfl⟩;rw [← hw] at hl hm cJ ⊢;clear hw;refine zE func36 ntmps36 fun R=>?_;repeat' (first|(refine yAw ?_;first|refine yAv (d:=10) rfl (fun g10=>?_)|refine yAv (d:=8) rfl (fun g8=>?_))|refine zbx fun g7=>?_|refine xca cr fun x=>?_;obtain ⟨x1,x2,x3⟩:=x|refine yAt ?_;refine yAa (ySE rfl rfl) ?_|refine xst ?_|refine xsf ?_ ?_|intro _)
 refine KJ.allShut (L:=[yAj g10 [zi (0:Nat)] 3,yAj g7 [.slice wa w.length wc] 61,roP (wa,wc) w,yAj g8 [.bool false] 4]) 95 xP ?_;refine yP4 (x:=(x1,x2,x3)) (a:=a) (N:=N) rfl rfl hRg rfl zX (fun i=>yDx 95 [yAj g10 [zi (i:Nat)] 3,yAj g7 [.slice wa w.length wc] 61,roP (wa,wc) w,yAj g8 [.bool false] 4]) (fun _=>yDx 96 [roP (wa,wc) w,yAj g8 [.bool true] 4]) .ret xP (fun l i p hp him R'=>?_) ?_ (fun i him=>?_)
 ·have hTp:=cJ i p hp him;dsimp only [Env.ofPs];refine KJ.allOpen (L:=[yAj g10 [zi (i:Nat)] 3,yAj g7 [.slice wa w.length wc] 61,roP (wa,wc) w,yAj g8 [.bool false] 4]) xS ?_;refine KJ.lsSome (l:=w) (a:=wa) (c:=wc) (m:=w.length) xS zO (fun gt jx=>?_);subst jx;have qg:(!decide ((i:Int)<((w.length:Nat):Int)))=false:=by rw [zY zO];rfl
  have gU:0+Int.toNat ((i:Nat):Int)*2+0=i*2+0:=zW;have dK:0+Int.toNat ((i:Nat):Int)*2+1=i*2+1:=zW;repeat' (first|refine yJC ?_;refine yJD xS ?_|(refine yAi ?_;first|refine yAa (yCV (j:=1) yBp rfl xS rfl dK hTp rfl) ?_|refine yAa (yCV (j:=0) yBp rfl xS rfl gU hTp rfl) ?_)|refine zad (i+1) ?_|refine yAo ?_;refine yAa (yDO rfl rfl rfl) ?_|refine xqa ?_|refine xsf ?_ ?_|intro _)
  refine KJ.allShut (L:=[yAj g10 [zi (i+1:Nat)] 3,yAj g7 [.slice (zq gt) w.length wc] 61,roP (some ⟨gt,0,none⟩,wc) w,yAj g8 [.bool false] 4]) 95 xP ?_;exact yGM xS (xN)
 ·refine KJ.allOpen (L:=[yAj g10 [zi (m:Nat)] 3,yAj g7 [.slice wa w.length wc] 61,roP (wa,wc) w,yAj g8 [.bool false] 4]) xS ?_;have qe:decide (((m:Nat):Int)=((w.length:Nat):Int))=true:=zY zO;repeat' (first|refine xqa ?_|refine xsf ?_ ?_|intro _)
  all_goals (refine yCu ?_;exact yA5 zor rfl (Rvs.cell (T:=4) rfl inferInstance xS rfl Rvs.nil) () (by rfl) (xN))
 ·refine KJ.allOpen (L:=[roP (wa,wc) w,yAj g8 [.bool true] 4]) xS ?_;repeat' (first|refine xst ?_|refine xsf ?_ ?_|intro _)
  all_goals (refine yCu ?_;exact yA5 zor rfl (Rvs.cell (T:=4) rfl inferInstance xS rfl Rvs.nil) () (by rfl) (xN))
end
section
variable {W:World} {F:Nat→Addr} {g d p n i s q t:Nat} {N:List Nd} {a:Option Addr} {b:Int} {r:Rows}
theorem xAY (o:SOp):CtU prog W 8 [zPp g,.agg (yEW o).toArray] [yBK g d p none none] (.bool true) [yBK g d p none none]:=by unfold yEW;refine zE func8 ntmps8 fun R=>?_;repeat' (first|refine zbx fun gx=>?_|refine xst ?_|refine xsf ?_ ?_|refine xdt zTIU0 ?_|exact xdn ()|apply zN|intro _)
theorem xAZ (o:SOp) (hk:o.kind=5) (v:Nat) (lg dj:Option Addr) (life:Int) (dead:Bool) (ra:Option Addr) (rc:Nat) (hT:TbOk N a r) (hl:r.length≤100000000) :CtU prog W 8 [zPp g,.agg (yEW o).toArray] [yBK g d p (zq s) (zq t),stP s d q n (v:Nat) lg life dead,tbP q a b,arP N,rsP t p n ra r.length rc (v:Nat) dj life dead,yAO (ra,rc) r] (.bool true) [yBK g d p (zq s) (zq t),stP s d q n (v:Nat) lg life dead,tbP q a b,arP N,rsP t p n ra r.length rc (v:Nat) dj life dead,yAO (ra,rc) r]:=by
 have cG:=yU8 (W:=W) (s:=s) (d:=d) (q:=q) (n:=n) (b:=b) (v:Nat) lg life dead hT o.key;have cZ:=xAV (W:=W) (A:=yAO (ra,rc) r) (a:=ra) (c:=rc) (l:=r) (Lv.own (e:=64) (c:=rc) yBp rfl) hT.ris zO o.key;obtain ⟨gv,hv⟩:∃ v,v=(lk r o.key).getD []:=⟨_,rfl⟩;obtain ⟨gb,hb⟩:∃ b,b=(lk r o.key).isSome:=⟨_,rfl⟩;rw [← hv,← hb] at cG cZ;clear hv hb;obtain ⟨kind,on,dC,iK,oa,oc,ops,ka,kc,kept,torn,bytes⟩:=o;dsimp only at *;subst hk;unfold yEW;dsimp only;refine zE func8 ntmps8 fun R=>?_;repeat' (first|refine zbx fun gx=>?_|(refine yAt ?_;first|refine yAa (yXk (r:=true) rfl rfl zW) ?_|refine yAa (yHG rfl rfl rfl) ?_)|refine xst ?_|refine xsf ?_ ?_|refine xdt zTIU0 ?_|exact xdn ()|apply zN|intro _)
theorem yWs (o:SOp) (hk:o.kind=6) (v:Nat) (lg dj:Option Addr) (life:Int) (dead:Bool) (ra:Option Addr) (rc:Nat) (hT:TbOk N a r) (hl:r.length≤100000000) :CtU prog W 8 [zPp g,.agg (yEW o).toArray] [yBK g d p (zq s) (zq t),stP s d q n (v:Nat) lg life dead,tbP q a b,arP N,rsP t p n ra r.length rc (v:Nat) dj life dead,yAO (ra,rc) r] (.bool true) [yBK g d p (zq s) (zq t),stP s d q n (v:Nat) lg life dead,tbP q a b,arP N,rsP t p n ra r.length rc (v:Nat) dj life dead,yAO (ra,rc) r]:=by
 have cZ:=yWr (W:=W) (A:=yAO (ra,rc) r) (ba:=ra) (bc:=rc) (l:=r) (Lv.own (e:=64) (c:=rc) yBp rfl) zO o.key o.hi;have du:(yE8 o.key o.hi r).length≤r.length:=Nat.le_trans (List.length_filter_le ..) (List.length_filter_le ..);have cR:=fun (wa:Option Addr) (wc:Nat)=>yQk (W:=W) (s:=s) (d:=d) (q:=q) (n:=n) (b:=b) (v:Nat) lg life dead hT o.key o.hi wa wc zO;obtain ⟨kind,on,dC,iK,oa,oc,ops,ka,kc,kept,torn,bytes⟩:=o;dsimp only at *;subst hk;unfold yEW;dsimp only;refine zE func8 ntmps8 fun R=>?_;repeat' (first|refine zbx fun gx=>?_|refine xca (cR _ _) fun _=>?_|refine xca cZ fun z=>?_;obtain ⟨wa,wc⟩:=z|refine xst ?_|refine xsf ?_ ?_|refine xdt zTIU0 ?_|exact xdn ()|apply zN|intro _)
theorem yYn (o:SOp) (hk:o.kind=7) (v:Nat) (lg dj:Option Addr) (life:Int) (dead:Bool) (ra:Option Addr) (rc:Nat) (hT:TbOk N a r) (hl:r.length≤100000000) :CtU prog W 8 [zPp g,.agg (yEW o).toArray] [yBK g d p (zq s) (zq t),stP s d q n (v:Nat) lg life dead,tbP q a b,arP N,rsP t p n ra r.length rc (v:Nat) dj life dead,yAO (ra,rc) r] (.bool true) [yBK g d p (zq s) (zq t),stP s d q n (v:Nat) lg life dead,tbP q a b,arP N,rsP t p n ra r.length rc (v:Nat) dj life dead,yAO (ra,rc) r]:=by
 have cR:=yQ6 (W:=W) (s:=s) (d:=d) (q:=q) (n:=n) (b:=b) (v:Nat) lg life dead hT zO;have cE:=fun (x:Option Addr × Nat)=>yLZ (W:=W) (xDk x r) (yAO (ra,rc) r) x.1 ra x.2 rc r (Lv.own (e:=64) (c:=x.2) yBp rfl) (Lv.own (e:=64) (c:=rc) yBp rfl) zO;obtain ⟨kind,on,dC,iK,oa,oc,ops,ka,kc,kept,torn,bytes⟩:=o;dsimp only at *;subst hk;unfold yEW;dsimp only;refine zE func8 ntmps8 fun R=>?_;repeat' (first|refine zbx fun gx=>?_|refine xca (cE (_,_)) fun _=>?_|refine xca cR fun x=>?_;obtain ⟨xa,xc⟩:=x|refine xst ?_|refine xsf ?_ ?_|refine xdt zTIU0 ?_|exact xdn ()|apply zN|intro _)
theorem yWt (o:SOp) (hk:o.kind=8) (v:Nat) (lg dj:Option Addr) (life:Int) (dead:Bool) (ra:Option Addr) (rc:Nat) (hT:TbOk N a r) (hl:r.length≤100000000) (h2:n≤65536) (hL:Lv W opC 3 noP o.oa o.ops) (kB:o.ops.length≤2000000) (hs:(yAk r).length≤4611686018427387904) (jY:(yAk (yAP r o.ops)).length≤4611686018427387904) :Ct prog W 8 [zPp g,.agg (yEW o).toArray] [yBK g d p (zq s) (zq t),stP s d q n (v:Nat) lg life dead,tbP q a b,arP N,rsP t p n ra r.length rc (v:Nat) dj life dead,yAO (ra,rc) r] (fun _:{M:List Nd//∀ y ∈ N,y ∈ M}=>.bool true) (fun x=>[yBK g d p (zq s) (zq t),stP s d q n (v:Nat) lg life dead,tbP q a b,arP x.1,rsP t p n ra r.length rc (v:Nat) dj life dead,yAO (ra,rc) r]):=by
 have cs:=yVj (W:=W) (s:=s) (d:=d) (q:=q) (n:=n) (b:=b) (v:Nat) lg life dead hT hs;have rs:=yEe (W:=W) (yAO (ra,rc) r) ra rc r (Lv.own (e:=64) (c:=rc) yBp rfl) hs;have cc:=yFJ (W:=W) noP o.oa o.oc o.ops hL kB;have ca:=fun ya yc=>yGn (W:=W) (s:=s) (d:=d) (q:=q) (n:=n) (b:=b) (v:Nat) lg life dead hT (yJt (ya,yc) o.ops) ya yc o.ops (Lv.own (e:=58) (c:=yc) yAY rfl) zO jY;have da:=yOK (W:=W) (t:=t) (p:=p) (n:=n) (yAO (ra,rc) r) noP ra rc (Lv.own (e:=64) (c:=rc) yBp rfl) hT.ris (v:Nat) dj life dead o.oa o.oc o.ops hL zO jY;have cm:=yCw (W:=W) (s:=s) (d:=d) (q:=q) (n:=n) (v:Nat) lg life dead h2;have rm:=yLj (W:=W) (t:=t) (p:=p) (n:=n) h2 ra r.length rc (v:Nat) dj life dead;have cg:=yEv (W:=W) (s:=s) (d:=d) (q:=q) (n:=n) (v:Nat) lg life dead h2;have rg:=yJn (W:=W) (t:=t) (p:=p) (n:=n) h2 ra r.length rc (v:Nat) dj life dead;have cv:=yVi (W:=W) (s:=s) (d:=d) (q:=q) (n:=n) (v:Nat) lg life dead;obtain ⟨x1,fi⟩:∃ x,x=(yAk r).length:=⟨_,rfl⟩;obtain ⟨x2,cH⟩:∃ x,x=(yAk (yAP r o.ops)).length:=⟨_,rfl⟩;obtain ⟨x3,hx3⟩:∃ x,x=yA2 (yA7 n:Nat):=⟨_,rfl⟩;rw [← fi] at cs rs;rw [← cH] at da;simp only [← cH] at ca;rw [← hx3] at cg rg;have e1:decide (((x1:Nat):Int)=((x1:Nat):Int))=true:=zY rfl;have e2:decide (((x2:Nat):Int)=((x2:Nat):Int))=true:=zY rfl;have e3:decide (x3=x3)=true:=zY rfl;have e4:decide (((234*yAA n:Nat):Int)=((234*yAA n:Nat):Int))=true:=zY rfl;have e5:decide (((v:Nat):Int)=((v:Nat):Int))=true:=zY rfl;clear fi cH hx3;obtain ⟨kind,on,dC,iK,oa,oc,ops,ka,kc,kept,torn,bytes⟩:=o;dsimp only at *;subst hk;unfold yEW;dsimp only;refine zE func8 ntmps8 fun R=>?_;refine KJ.noP ?_;repeat' (first|refine zbx fun gx=>?_|refine xca (ca _ _) fun M=>?_;obtain ⟨M,hM⟩:=M;dsimp only at hM ⊢|refine xca cc fun y=>?_;obtain ⟨ya,yc⟩:=y|refine xqa ?_|refine xsf ?_ ?_|refine xdt zTIU0 ?_|apply zN|intro _)
 all_goals (exact xdn ⟨M,hM⟩)
theorem yYo (s:Addr) (t:Option Addr) (o:SOp) (k5:o.kind≠5) (k6:o.kind≠6) (k7:o.kind≠7) (k8:o.kind≠8) :CtU prog W 8 [zPp g,.agg (yEW o).toArray] [yBK g d p (some s) t] (.bool true) [yBK g d p (some s) t]:=by
 have q5:decide (o.kind=5)=false:=zZ k5;have q6:decide (o.kind=6)=false:=zZ k6;have q7:decide (o.kind=7)=false:=zZ k7;have q8:decide (o.kind=8)=false:=zZ k8;unfold yEW;refine zE func8 ntmps8 fun R=>?_;repeat' (first|refine zbx fun gx=>?_|refine xqa ?_|refine xsf ?_ ?_|refine xdt zTIU0 ?_|exact xdn ()|apply zN|intro _)
theorem yRB (o:SOp) (ho:SOpOk W o) (v:Nat) (lg dj:Option Addr) (life:Int) (dead:Bool) (ra:Option Addr) (rc:Nat) (hh:HeldOk n N a r v) (h2:n≤176) :Ct prog W 8 [zPp g,.agg (yEW o).toArray] [yBK g d p (zq s) (zq t),stP s d q n (v:Nat) lg life dead,tbP q a b,arP N,rsP t p n ra r.length rc (v:Nat) dj life dead,yAO (ra,rc) r] (fun _:{M:List Nd//∀ y ∈ N,y ∈ M}=>.bool true) (fun x=>[yBK g d p (zq s) (zq t),stP s d q n (v:Nat) lg life dead,tbP q a b,arP x.1,rsP t p n ra r.length rc (v:Nat) dj life dead,yAO (ra,rc) r]):=by
 obtain ⟨h1,hT,hr,ah,hv⟩:=hh;obtain ⟨du,jp⟩:=yIh ah zO;have hsa:=ho.fit.snap hr zO;have kB:=ho.fit.len;have hN:∀ y ∈ N,y ∈ N:=fun _ h=>h;by_cases k5:o.kind=5
 ·exact (xAZ (W:=W) (g:=g) (d:=d) (p:=p) (n:=n) (s:=s) (q:=q) (t:=t) (b:=b) o k5 v lg dj life dead ra rc hT zO).to (fun _=>⟨N,hN⟩) (fun _=>rfl) (fun _ R h q=>q)
 by_cases k6:o.kind=6
 ·exact (yWs (W:=W) (g:=g) (d:=d) (p:=p) (n:=n) (s:=s) (q:=q) (t:=t) (b:=b) o k6 v lg dj life dead ra rc hT zO).to (fun _=>⟨N,hN⟩) (fun _=>rfl) (fun _ R h q=>q)
 by_cases k7:o.kind=7
 ·exact (yYn (W:=W) (g:=g) (d:=d) (p:=p) (n:=n) (s:=s) (q:=q) (t:=t) (b:=b) o k7 v lg dj life dead ra rc hT zO).to (fun _=>⟨N,hN⟩) (fun _=>rfl) (fun _ R h q=>q)
 by_cases k8:o.kind=8
 ·exact yWt (W:=W) (g:=g) (d:=d) (p:=p) (n:=n) (s:=s) (q:=q) (t:=t) (b:=b) o k8 v lg dj life dead ra rc hT zO zO (Lv.old yAY ho.lies) zO zO hsa
 exact ((yYo (W:=W) (g:=g) (d:=d) (p:=p) ⟨s,0,none⟩ (zq t) o k5 k6 k7 k8).frm [stP s d q n (v:Nat) lg life dead,tbP q a b,arP N,rsP t p n ra r.length rc (v:Nat) dj life dead,yAO (ra,rc) r]).to (fun _=>⟨N,hN⟩) (fun _=>rfl) (fun _ R h q=>q)
theorem yYp (h2:n≤176) (o:SOp) (ho:SOpOk W o) :CtU prog W 8 [zPp g,.agg (yEW o).toArray] [PyP n g d p i] (.bool true) [PyP n g d p i]:=by
 refine xCn fun x hx=>?_;cases x with
 |no D=>
  refine ⟨Unit,fun _=>⟨.no D,hx⟩,?_⟩;exact ((xAY (W:=W) (g:=g) (d:=d) (p:=p) o).frm [DiskP d D,yA1 p D]).conv (fun R=>(xN)) (fun _ R=>(xN))
 |live D s q gj t rj N a b r ra rc v used=>
  have eI:=hx;obtain ⟨hd,hh,aj,d4⟩:=eI;refine ⟨{M:List Nd//∀ y ∈ N,y ∈ M},fun M=>⟨.live D s q gj t rj M.1 a b r ra rc v used,hd,⟨hh.h1,hh.tab.mono M.2,hh.ris,hh.room,hh.v1⟩,aj,d4⟩,?_⟩;exact ((yRB (W:=W) (g:=g) (d:=d) (p:=p) (s:=s) (q:=q) (t:=t) (b:=b) o ho v (zq gj) (zq rj) D.life false ra rc hh h2).frm [DiskP d D,yA1 p D,yPX gj d n v used D.life,rjP rj p n v used false D.life]).conv (fun R=>(xN)) (fun _ R=>(xN))
 |gone D s q t N a b r ra rc v life dead lg dj=>
  have eI:=hx;obtain ⟨hd,hh,bz,d7⟩:=eI;refine ⟨{M:List Nd//∀ y ∈ N,y ∈ M},fun M=>⟨.gone D s q t M.1 a b r ra rc v life dead lg dj,hd,⟨hh.h1,hh.tab.mono M.2,hh.ris,hh.room,hh.v1⟩,bz,d7⟩,?_⟩;exact ((yRB (W:=W) (g:=g) (d:=d) (p:=p) (s:=s) (q:=q) (t:=t) (b:=b) o ho v lg dj life dead ra rc hh h2).frm [DiskP d D,yA1 p D]).conv (fun R=>(xN)) (fun _ R=>(xN))
end
section
variable {W:World} {p:Nat} {D:Dsk}
theorem yTj (am:D.ok) (sv wv:Value):CtU prog W 11 [zPp p] [yAj p [sv,wv,.bool D.off,.bool (decide (0≤D.armed)),zi (max D.armed 0),zi D.writes,zi D.flushes,zi D.life] 52,yA4 sv 9 1 D.n (yBy D.img D.n),yA4 wv 128 2 D.und.length (yBV D.und)] (strV D.img) [yAj p [sv,wv,.bool D.off,.bool (decide (0≤D.armed)),zi (max D.armed 0),zi D.writes,zi D.flushes,zi D.life] 52,yA4 sv 9 1 D.n (yBy D.img D.n),yA4 wv 128 2 D.und.length (yBV D.und)]:=by
 have cN:=am.n1;have cO:=am.n2;have ai:=am.len;have hfull:D.img.take (256*D.n)=D.img:=zLi zO;have eK:([]:List Value)=bvs (D.img.take (256*0)):=rfl;refine zE func11 ntmps11 fun R=>?_;refine KJ.row_shape (v:=sv) xS zO (fun gs c e=>?_);subst e;repeat' (first|refine yAD ?_;refine yCC rfl (fun g0=>?_)|refine xst ?_|refine xsf ?_ ?_|intro _)
 refine yAC (fun i:{x:Nat × Nat × Nat//x.1≤D.n}=>[(3,.slice (some ⟨i.1.2.1,0,none⟩) (256*i.1.1) i.1.2.2),(10,.slice (zq gs) D.n c),(11,zi D.n),(12,zi (i.1.1:Nat))]) (fun i=>[yA4 (.slice (some ⟨i.1.2.1,0,none⟩) (256*i.1.1) i.1.2.2) 5 1 (256*i.1.1) (bvs (D.img.take (256*i.1.1)))]++[yAj p [.slice (zq gs) D.n c,wv,.bool D.off,.bool (decide (0≤D.armed)),zi (max D.armed 0),zi D.writes,zi D.flushes,zi D.life] 52,yA4 (.slice (zq gs) D.n c) 9 1 D.n (yBy D.img D.n),yA4 (wv) 128 2 D.und.length (yBV D.und)]++R) (fun i=>D.n-i.1.1) ⟨(0,g0,0),zO⟩ xB ?_ (fun ⟨⟨k,g1,c1⟩,hk⟩=>?_)
 ·exact (xN)
 dsimp only at hk ⊢;by_cases hlt:k<D.n
 ·have hS:(yBy D.img D.n)[0+(k:Int).toNat*1]? = some (strV (cut D.img (k*256) 256)):=by rw [zLe,Nat.mul_one,zLq,yGr _ _ _ hlt]
  have dS:(cut D.img (k*256) 256).length=256:=yBY _ _ _ zO;have ax:bvs (D.img.take (256*k))++bvs (cut D.img (k*256) 256)=bvs (D.img.take (256*(k+1))):=by rw [← yW8];simp [bvs]
  have dJ:256*k+(cut D.img (k*256) 256).length=256*(k+1):=by rw [dS];omega
  repeat' (first|refine yAQ ?_;refine yED rfl rfl xS (.inr rfl) (by rw [dS];omega) rfl (fun g2 c2=>?_)|refine zad (k+1) ?_|refine xqa ?_|refine xsf ?_ ?_|intro _)
  rw [dJ,ax];refine yAs ⟨(k+1,g2,c2),zO⟩ (by show D.n-(k+1)<D.n-k;omega) xB (xN)
 ·have aY:k=D.n:=by omega
  subst aY;rw [hfull];repeat' (first|refine yAu ?_;refine yAa (yFr rfl xS) ?_|refine xst ?_|refine xsf ?_ ?_|exact xdn ()|intro _)
end
end Go.Proofs.YtoipmnikdiogcaaGreatDoor
