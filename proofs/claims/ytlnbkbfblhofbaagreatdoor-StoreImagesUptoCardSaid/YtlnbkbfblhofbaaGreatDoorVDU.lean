/-
  BaR1, RdW3, TbW7, TbW8, RdW4.
-/
import Derived.Test.YtlnbkbfblhofbaaGreatDoorVDH
set_option maxHeartbeats 64000000
namespace Go.Proofs.YtlnbkbfblhofbaaGreatDoor
open Go Go.RowKit
open Go.Proofs.Tryz
abbrev yMR:Pl:=(.op 0 (.op 1 (.op 2 (.op 3 (.op 4 (.op 5 (.op 6 (.op 7 (.op 8 (.op 9 (.op 10 (.op 11 (.op 12 (.op 13 (.op 14 (.op 15 .nil))))))))))))))))
abbrev yPl:Pl:=(.op 0 (.op 1 (.op 2 .nil)))
abbrev yPm:Pl:=(.op 0 (.op 1 (.op 2 (.op 3 (.op 4 (.op 5 (.op 6 (.op 7 (.op 8 (.op 9 (.op 10 (.op 11 (.op 12 (.op 13 (.op 14 (.op 15 (.op 16 .nil)))))))))))))))))
def rC (r:List UInt8 × List UInt8):List Value:=[strV r.1,strV r.2]
theorem yB2:EncOk rC 2:=⟨fun _=>rfl,fun x=>by unfold rC;exact xO,zO⟩
section
variable {W:World}
theorem yS3 (a:Option Addr) (c:Nat) (l:Rows) (hr:RisR l) (k:List UInt8) (hl:l.length≤140737488355328) :
 CtU prog W 75 [.slice a l.length c,strV k] [lsP rC 62 2 (.slice a l.length c) l] (.tuple #[.int .i64 (atB Prod.fst l k:Nat),.bool (yJY Prod.fst l k)]) [lsP rC 62 2 (.slice a l.length c) l]:=by
 have hat:=yO3 (f:=Prod.fst) l k
 refine Ct.enter func75 rfl ntmps75 zW (fun R=>?_)
 repeat' (first|refine xst ?_|refine xsa ?_;intro _|refine xsb ?_ ?_<;>intro _<;>try omega|refine xsc ?_|refine xdr 7 yMR ?_|refine xsd ?_ ?_|exact Rech.nil|fail)
 refine yAz (fun i:{i:Nat × Nat//i.1≤atB Prod.fst l k∧atB Prod.fst l k≤i.2∧i.2≤l.length}=>[(0,.slice a l.length c),(1,strV k),(6,.int .i64 (i.1.1:Nat)),(7,.int .i64 (i.1.2:Nat))])
  (fun i=>[lsP rC 62 2 (.slice a l.length c) l]++R) (fun i=>i.1.2-i.1.1) ⟨(0,l.length),zLA _,hat,Nat.le_refl _⟩ xB (xN) (fun ⟨(lo,hi),h1,h2,h3⟩=>?_)
 dsimp only at h1 h2 h3 ⊢
 by_cases hlt:lo<hi
 ·have ql:decide ((lo:Int)<(hi:Nat))=true:=zY zO
  have hm:(lo+hi) / 2<l.length:=zO
  obtain ⟨x,hx⟩:∃ s,l[(lo+hi) / 2]? = some s:=⟨_,zLb hm⟩
  have hiff:=yNN hr k _ x hx
  refine KJ.lsSome xS zO (fun g hg=>?_)
  subst hg
  have ho:0+Int.toNat (((lo+hi) / 2:Nat):Int)*2+0=(lo+hi) / 2*2+0:=by rw [zLe];omega
  have kx:(rC x)[0]? = some (strV x.1):=rfl
  cases hb:Op.bytesLess x.1 k with
  |true=>
   have:=hiff.1 hb
   repeat' (first|refine yAj ?_;refine yAa (yC7 yB2 rfl xS rfl ho hx kx) ?_|refine yAa (yAd (r:=(((lo+hi) / 2+1:Nat):Int)) rfl rfl zO zO) ?_|refine yAa (yAd (r:=((lo+hi:Nat):Int)) rfl rfl zO zO) ?_|refine yDK ?_;refine yAa (yD8 (r:=(((lo+hi) / 2:Nat):Int)) rfl rfl zO zO) ?_|refine yAa (yDQ rfl rfl hb) ?_|refine yAa (yAc rfl rfl ql) ?_|refine xst ?_|refine xsa ?_;intro _|refine xsb ?_ ?_<;>intro _<;>try omega|refine xsc ?_|refine xdr 7 yMR ?_|refine xsd ?_ ?_|exact Rech.nil|fail)
   all_goals refine yAp ⟨((lo+hi) / 2+1,hi),by dsimp only;omega,h2,h3⟩ (by show hi-((lo+hi) / 2+1)<hi-lo;omega) xB (xN)
  |false=>
   have:¬ (lo+hi) / 2<atB Prod.fst l k:=fun h=>by rw [hiff.2 h] at hb;cases hb
   repeat' (first|refine yAj ?_;refine yAa (yC7 yB2 rfl xS rfl ho hx kx) ?_|refine yAa (yAd (r:=((lo+hi:Nat):Int)) rfl rfl zO zO) ?_|refine yDK ?_;refine yAa (yD8 (r:=(((lo+hi) / 2:Nat):Int)) rfl rfl zO zO) ?_|refine yAa (yDQ rfl rfl hb) ?_|refine yAa (yAc rfl rfl ql) ?_|refine xst ?_|refine xsa ?_;intro _|refine xsb ?_ ?_<;>intro _<;>try omega|refine xsc ?_|refine xdr 7 yMR ?_|refine xsd ?_ ?_|exact Rech.nil|fail)
   all_goals refine yAp ⟨(lo,(lo+hi) / 2),h1,by dsimp only;omega,by dsimp only;omega⟩ (by show (lo+hi) / 2-lo<hi-lo;omega) xB (xN)
 have ql:decide ((lo:Int)<(hi:Nat))=false:=zZ zO
 obtain rfl:lo=atB Prod.fst l k:=zO
 by_cases hin:atB Prod.fst l k<l.length
 ·have q2:decide ((atB Prod.fst l k:Int)<(l.length:Nat))=true:=zY zO
  obtain ⟨x,hx⟩:∃ s,l[atB Prod.fst l k]? = some s:=⟨_,zLb hin⟩
  have hh:decide (x.1=k)=yJY Prod.fst l k:=by
   cases e:yJY Prod.fst l k with
   |true=>
    obtain ⟨y,hy,ey⟩:=(yLc hr k).1 e
    rw [hx] at hy;cases hy;exact zY ey
   |false=>exact zZ fun q=>by rw [(yLc hr k).2 ⟨x,hx,q⟩] at e;cases e
  refine KJ.lsSome xS zO (fun g hg=>?_)
  subst hg
  have ho:0+Int.toNat ((atB Prod.fst l k:Nat):Int)*2+0=atB Prod.fst l k*2+0:=zW
  have kx:(rC x)[0]? = some (strV x.1):=rfl
  repeat' (first|refine yAj ?_;refine yAa (yC7 yB2 rfl xS rfl ho hx kx) ?_|refine yAa (yAc rfl rfl ql) ?_|refine yAa (yAc rfl rfl q2) ?_|refine xst ?_|refine xsa ?_;intro _|refine xsb ?_ ?_<;>intro _<;>try omega|refine xsc ?_|refine xdr 7 yMR ?_|refine xsd ?_ ?_|exact Rech.nil|fail)
  all_goals exact xdn () (hc:=by rw [← hh];rfl)
 ·have q2:decide ((atB Prod.fst l k:Int)<(l.length:Nat))=false:=zZ zO
  have hh:yJY Prod.fst l k=false:=by
   cases e:yJY Prod.fst l k with
   |false=>rfl
   |true=>
    obtain ⟨y,hy,-⟩:=(yLc hr k).1 e
    exact absurd (zLc.1 hy).1 hin
  repeat' (first|refine yAa (yAc rfl rfl ql) ?_|refine yAa (yAc rfl rfl q2) ?_|refine xst ?_|refine xsa ?_;intro _|refine xsb ?_ ?_<;>intro _<;>try omega|refine xsc ?_|refine xdr 7 yMR ?_|refine xsd ?_ ?_|exact Rech.nil|fail)
  all_goals exact xdn () (hc:=by rw [hh];rfl)
end
def txA (most:Nat) (l:List UInt8):Nat:=match ru l with
 |.bad _=>0
 |.ok n t=>if most<n then 0 else if t.length<n then (vu n).length else (vu n).length+n
def rdS:Rd (List UInt8)→List UInt8
 |.bad _=>[]
 |.ok y _=>y
def rdT:Rd (List UInt8)→Nat
 |.bad _=>0
 |.ok y _=>(tx y).length
theorem yS4 {most:Nat} {l y t:List UInt8} (h:rtx most l=.ok y t):txA most l=(tx y).length:=by
 unfold rtx at h
 unfold txA
 split at h
 ·cases h
 rename_i n u hu
 rw [hu]
 dsimp only
 split at h
 ·cases h
 rename_i h1
 split at h
 ·cases h
 rename_i h2
 rw [if_neg h1,if_neg h2]
 cases h
 have e:(u.take n).length=n:=by rw [zLg];omega
 unfold tx
 rw [zLa,e]
theorem yCN {P:Program} {W:World} {n:Nat} {E:Env} {H:List SP} {f:FuncId} {x y:Operand} {u v:Value} (hx:Env.ev E x=some u) (hy:Env.ev E y=some v):Ev P W n E H (.makeFunc (.func f) #[] #[x,y]) (.func (.func f) #[] #[u,v]):=
 yME (f:=.func f) (xs:=[]) (ys:=[x,y]) (us:=[]) (vs:=[u,v]) Evs.nil (.cons hx (.cons hy Evs.nil)) rfl
theorem yKs {most x:Nat} {t:List UInt8} (h:¬ most<x):yGy most (.ok x t)=0∧yNm most (.ok x t)=x∧yNn most (.ok x t)=(vu x).length:=⟨if_neg h,if_neg h,if_neg h⟩
theorem yLD {most x:Nat} {t:List UInt8} (h:most<x):yGy most (.ok x t)=3∧yNm most (.ok x t)=0∧yNn most (.ok x t)=0:=⟨if_pos h,if_pos h,if_pos h⟩
theorem yVq {most:Nat} {q:Rd Nat} {l:List UInt8} (hm:most≤9223372036854775807) (hq:ru l=q) (he:yGy most q=0):yNn most q=rdL q∧IntKind.i64.wrap ((rdN q:Nat):Int)=((yNm most q:Nat):Int):=by
 cases q with
 |bad e=>exact absurd he (by show e≠0;rcases yC2 hq with h|h <;> omega)
 |ok x t=>
  by_cases h:most<x
  ·rw [(yLD h).1] at he;cases he
  ·obtain ⟨h1,h2,h3⟩:=yKs (t:=t) h
   rw [h2,h3]
   refine ⟨rfl,?_⟩
   show IntKind.i64.wrap ((x:Nat):Int)=_
   simp only [IntKind.wrap,IntKind.signed,IntKind.bits]
   simp
   omega
theorem yXM {most:Nat} {q:Rd Nat} (he:yGy most q≠0):yNn most q=0∧yNm most q=0:=by
 cases q with
 |bad e=>exact ⟨rfl,rfl⟩
 |ok x t=>
  by_cases h:most<x
  ·exact ⟨(yLD h).2.2,(yLD h).2.1⟩
  ·exact absurd (yKs h).1 he
section
variable {W:World} {F:Nat→Addr} {p:Nat} {s:List UInt8} {a:Nat}
theorem yDd (most:Nat) (hm:most≤9223372036854775807) (ha:a≤s.length) (hs:s.length≤9223372036854775807) (e1:W.cell? ⟨7,0,none⟩=some (yAr F 1)) (e2:W.cell? ⟨8,0,none⟩=some (yAr F 2)) (e3:W.cell? ⟨9,0,none⟩=some (yAr F 3)) (q:Rd Nat) (hq:ru (s.drop a)=q) :
 CtU prog W 87 [zPp p,.int .i64 (most:Nat)] [rdP p s a] (.tuple #[.int .i64 (yNm most q:Nat),yAr F (yGy most q)]) [rdP p s (a+yNn most q)]:=by
 have cu:∀ br bm,Ct prog W 131 [zPp p,.func (.func 132) #[] #[zPp br,zPp bm]] [rdP p s a,yAi br [zPp p] 143,yAi bm [.int .i64 (most:Nat)] 3] (fun _:Unit=>.tuple #[.int .i64 (yNm most q:Nat),yAr F (yGy most q)])
  (fun _=>[rdP p s (a+yNn most q),yAi br [zPp p] 143,yAi bm [.int .i64 (most:Nat)] 3]):=fun br bm=>by
  have cc:=yVj (W:=W) (F:=F) (p:=p) (s:=s) (a:=a) br bm most hm ha hs e1 e2 e3 q hq
  by_cases he:yGy most q=0
  ·obtain ⟨hl,hn⟩:=yVq hm hq he
   rw [hn,he] at cc
   rw [he,hl]
   refine Ct.enter func131 rfl ntmps131 zW (fun R=>?_)
   repeat' (first|refine yGX ?_;refine yIw rfl xE rfl cc xP rfl (fun _=>?_)|refine xst ?_|refine xsa ?_;intro _|refine xsb ?_ ?_<;>intro _<;>try omega|refine xsc ?_|exact xdn ()|fail)
  ·obtain ⟨hl,hn⟩:=yXM he
   have hne:=yIs (F:=F) he
   rw [hl,hn]
   refine Ct.enter func131 rfl ntmps131 zW (fun R=>?_)
   repeat' (first|refine yGX ?_;refine yIw rfl xE rfl cc xP rfl (fun _=>?_)|refine yAa (yCc rfl hne) ?_|refine xst ?_|refine xsa ?_;intro _|refine xsb ?_ ?_<;>intro _<;>try omega|refine xsc ?_|exact xdn ()|fail)
 refine Ct.enter func87 rfl ntmps87 zW (fun R=>?_)
 repeat' (first|refine yA4 ?_;refine yA3 rfl xF rfl (fun g=>?_)|refine yAb ?_;refine xca (cu _ _) fun _=>?_|refine yCQ ?_;refine yAa (yCN rfl rfl) ?_|refine xst ?_|refine xsa ?_;intro _|refine xsb ?_ ?_<;>intro _<;>try omega|refine xsc ?_|exact xdn ()|fail)
end
def TbOk (N:List Nd) (a:Option Addr) (r:Rows):Prop:=∃ t,TrAt N a t∧t.Ok∧t.rows=r∧RisR r
theorem TbOk.mono {N N':List Nd} {a:Option Addr} {r:Rows} (h:TbOk N a r) (hm:∀ x ∈ N,x ∈ N'):TbOk N' a r:=by
 obtain ⟨t,h1,h2,h3,h4⟩:=h
 exact ⟨t,h1.mono hm,h2,h3,h4⟩
theorem TbOk.ris {N:List Nd} {a:Option Addr} {r:Rows} (h:TbOk N a r):RisR r:=by obtain ⟨t,-,-,-,h4⟩:=h;exact h4
theorem TbOk.nil (N:List Nd):TbOk N none []:=⟨.nil,rfl,trivial,rfl,List.Pairwise.nil⟩
abbrev TbQ (N:List Nd) (r:Rows):Type:={x:List Nd × Option Addr × Int//(∀ y ∈ N,y ∈ x.1)∧TbOk x.1 x.2.1 r}
abbrev tbP (p:Nat) (a:Option Addr) (b:Int):SP:=yAi p [.pointer a,.int .i64 b] 171
theorem yJm:∀ t:Tr,t.frm []=t.rows
 |.nil=>rfl
 |.node l k v r _ _=>by rw [yWx (by cases k <;> rfl),yJm l,yJm r];rfl
theorem yHQ {W:World} {n:Nat} {k:KK} {E:Env} {H R:List SP} (hs:Sel (yJT False) H R):KJ W n k E H:=⟨fun _ _ _ s=>(s.left.fact hs).elim⟩
section
variable {W:World} {N:List Nd} {a:Option Addr} {r:Rows} {p:Nat} {b:Int} {k v:List UInt8}
theorem yOj:Ct prog W 60 [] [] (fun p:Nat=>(zPp p)) (fun p=>[tbP p none 0]):=by
 refine Ct.enter func60 rfl ntmps60 zW (fun R=>?_)
 repeat' (first|refine yA4 ?_;refine yA3 rfl xF rfl (fun g=>?_)|refine yAB ?_;refine yAa (yAC xV xW) ?_|refine xst ?_|refine xsa ?_;intro _|refine xsb ?_ ?_<;>intro _<;>try omega|refine xsc ?_|fail)
 all_goals (exact xdn g)
theorem yXN (hT:TbOk N a r) (x:List UInt8) :
 CtU prog W 51 [zPp p,strV x] [tbP p a b,arP N] (.tuple #[strV ((lk r x).getD []),.bool (lk r x).isSome]) [tbP p a b,arP N]:=by
 obtain ⟨t,h1,h2,rfl,h4⟩:=hT
 have cg:=yOi (W:=W) h1 x
 rw [Tr.get_rows h4] at cg
 refine Ct.enter func51 rfl ntmps51 zW (fun R=>?_)
 repeat' (first|refine yAb ?_;refine xca cg fun _=>?_|refine xst ?_|refine xsa ?_;intro _|refine xsb ?_ ?_<;>intro _<;>try omega|refine xsc ?_|exact xdn ()|fail)
theorem yOk (hT:TbOk N a r):CtU prog W 54 [zPp p] [tbP p a b,arP N] (.int .i64 (r.length:Nat)) [tbP p a b,arP N]:=by
 obtain ⟨t,h1,h2,rfl,h4⟩:=hT
 have cg:=yJk (W:=W) h1
 rw [Tr.cnt_rows h2] at cg
 refine Ct.enter func54 rfl ntmps54 zW (fun R=>?_)
 repeat' (first|refine yAb ?_;refine xca cg fun _=>?_|refine xst ?_|refine xsa ?_;intro _|refine xsb ?_ ?_<;>intro _<;>try omega|refine xsc ?_|exact xdn ()|fail)
theorem yOl (hT:TbOk N a r) (hl:r.length≤288230376151711744) :
 Ct prog W 63 [zPp p,strV k,strV v] [tbP p a b,arP N] (fun _:TbQ N (yE4 r k v)=>.bool (lk r k).isSome) (fun x=>[tbP p x.1.2.1 x.1.2.2,arP x.1.1]):=by
 obtain ⟨t,h1,h2,rfl,h4⟩:=hT
 have cg:=yOi (W:=W) h1 k
 rw [Tr.get_rows h4] at cg
 have cp:=yXK (W:=W) k v t h1 h2 h4 (by rw [Tr.cnt_rows h2];exact hl)
 obtain ⟨q1,q2,-,-⟩:=Tr.put_ok h2 h4 k v
 have q3:=yCm h4 k v
 cases hk:lk t.rows k with
 |none=>
  rw [hk] at cg
  refine Ct.enter func63 rfl ntmps63 zW (fun R=>?_)
  repeat' (first|(refine yAb ?_;first|refine xca cp fun x=>?_;obtain ⟨⟨N1,p1⟩,g1,t1⟩:=x;dsimp only at g1 t1 ⊢|refine xca cg fun _=>?_)|refine xst ?_|refine xsa ?_;intro _|refine xsb ?_ ?_<;>intro _<;>try omega|refine xsc ?_|fail)
  all_goals (exact xdn ⟨(N1,p1,_),g1,_,t1,q1,q2,q3⟩)
 |some old=>
  rw [hk] at cg
  refine Ct.enter func63 rfl ntmps63 zW (fun R=>?_)
  repeat' (first|(refine yAb ?_;first|refine xca cp fun x=>?_;obtain ⟨⟨N1,p1⟩,g1,t1⟩:=x;dsimp only at g1 t1 ⊢|refine xca cg fun _=>?_)|refine xst ?_|refine xsa ?_;intro _|refine xsb ?_ ?_<;>intro _<;>try omega|refine xsc ?_|fail)
  all_goals (exact xdn ⟨(N1,p1,_),g1,_,t1,q1,q2,q3⟩)
theorem yXO (hT:TbOk N a r) (hl:r.length≤288230376151711744) :
 Ct prog W 62 [zPp p,strV k] [tbP p a b,arP N] (fun _:TbQ N (yF6 r k)=>.bool (lk r k).isSome) (fun x=>[tbP p x.1.2.1 x.1.2.2,arP x.1.1]):=by
 obtain ⟨t,h1,h2,rfl,h4⟩:=hT
 have cg:=yOi (W:=W) h1 k
 rw [Tr.get_rows h4] at cg
 have q3:=yLe h4 k
 cases hk:lk t.rows k with
 |none=>
  rw [hk] at cg
  have hm:=yCS hk
  refine Ct.enter func62 rfl ntmps62 zW (fun R=>?_)
  repeat' (first|refine yAb ?_;refine xca cg fun _=>?_|refine xst ?_|refine xsa ?_;intro _|refine xsb ?_ ?_<;>intro _<;>try omega|refine xsc ?_|fail)
  all_goals (exact xdn ⟨(N,a,_),fun y hy=>hy,t,h1,h2,hm.symm,q3⟩)
 |some old=>
  rw [hk] at cg
  have hs:(lk t.rows k).isSome=true:=by rw [hk];rfl
  have cp:=yS1 (W:=W) t k h1 h2 h4 (by rw [Tr.cnt_rows h2];exact hl) hs
  obtain ⟨q1,q2,-,-⟩:=Tr.remove_ok h2 h4 k hs
  refine Ct.enter func62 rfl ntmps62 zW (fun R=>?_)
  repeat' (first|(refine yAb ?_;first|refine xca cp fun x=>?_;obtain ⟨⟨N1,p1⟩,g1,t1⟩:=x;dsimp only at g1 t1 ⊢|refine xca cg fun _=>?_)|refine xst ?_|refine xsa ?_;intro _|refine xsb ?_ ?_<;>intro _<;>try omega|refine xsc ?_|fail)
  all_goals (exact xdn ⟨(N1,p1,_),g1,_,t1,q1,q2,q3⟩)
theorem yLE (x:List UInt8):Ct prog W 55 [zPp p,strV x] [tbP p a b] (fun x:Nat × Nat=>.func (.func 115) #[] #[.pointer (some ⟨x.1,0,none⟩),.pointer (some ⟨x.2,0,none⟩)])
 (fun z=>[tbP p a b,yAi z.1 [.pointer a] 169,yAi z.2 [strV x] 9]):=by
 refine Ct.enter func55 rfl ntmps55 zW (fun R=>?_)
 repeat' (first|refine yAs ?_;refine yAq rfl (fun gr=>?_)|refine yA4 ?_;refine yA3 rfl xF rfl (fun gl=>?_)|refine yCQ ?_;refine yAa (yCN rfl rfl) ?_|refine xst ?_|refine xsa ?_;intro _|refine xsb ?_ ?_<;>intro _<;>try omega|refine xsc ?_|fail)
 all_goals (exact xdn (gr,gl))
theorem yVr (hT:TbOk N a r) (hl:r.length*32≤140737488355328) :
 Ct prog W 24 [zPp p] [tbP p a b,arP N] (fun x:Option Addr × Nat=>.slice x.1 r.length x.2) (fun x=>[tbP p a b,arP N,lsP rC 62 2 (.slice x.1 r.length x.2) r]):=by
 have cl:=yOk (W:=W) (p:=p) (b:=b) hT
 have cf:=yLE (W:=W) (p:=p) (a:=a) (b:=b) []
 obtain ⟨t,h1,h2,ht,h4⟩:=hT
 have hL:r=t.frm []:=by rw [yJm,ht]
 refine Ct.enter func24 rfl ntmps24 zW (fun R=>?_)
 repeat' (first|refine yAs ?_;refine yAq rfl (fun g3=>?_)|(refine yAb ?_;first|refine xca cf fun z=>?_;obtain ⟨gr,gl⟩:=z|refine xca cl fun _=>?_)|refine yHy ?_;refine yVo (m:=r.length) (bytes:=32) rfl rfl rfl zO zO rfl (fun gm cm=>?_)|refine xst ?_|refine xsa ?_;intro _|refine xsb ?_ ?_<;>intro _<;>try omega|refine xsc ?_|fail)
 obtain ⟨F,hF⟩:∃ F:Nat→Option Addr × Nat→List SP,F=fun i x=>[yAi g3 [.slice x.1 (r.take i).length x.2] 43,lsP rC 62 2 (.slice x.1 (r.take i).length x.2) (r.take i)]:=⟨_,rfl⟩
 have hFi:∀ i x,F i x=[yAi g3 [.slice x.1 (r.take i).length x.2] 43,lsP rC 62 2 (.slice x.1 (r.take i).length x.2) (r.take i)]:=fun i x=>by rw [hF]
 clear hF
 refine KJ.packs (tag:=52) (key:=g3) (F:=F 0) (some ⟨gm,0,none⟩,cm) (by rw [hFi];exact xP) ?_
 refine yFu (gr:=gr) (gl:=gl) (L:=r) rfl rfl h1 hL rfl zX (fun i=>yGU 52 g3 (F i)) (fun i=>yJT False) .ret xP (fun l i s hs R'=>?_) ?_ (fun i hi=>?_)
 ·have hlt:=(zLc.1 hs).1
  dsimp only [Env.ofPs]
  refine KJ.unpack_at (F:=F i) xS (fun x=>?_)
  rw [hFi]
  have em:r.take i++[s]=r.take (i+1):=by rw [List.take_add_one,hs];rfl
  have b1:((r.take i).length+1)*32≤140737488355328:=by rw [zLg];omega
  have b2:(r.take i).length+1≤9223372036854775807:=zO
  repeat' (first|refine yLB ?_;refine yLC xS ?_|refine yAH ?_;refine yBV (a:=s) yB2 rfl rfl rfl xS xS b1 b2 rfl (fun g5 c5=>?_)|refine yAF ?_;refine yAI rfl xF (by rfl) zO rfl (fun gb=>?_)|refine yAB ?_;refine yAa (yAC xV xW) ?_|refine xst ?_|refine xsa ?_;intro _|refine xsb ?_ ?_<;>intro _<;>try omega|refine xsc ?_|fail)
  rw [em]
  refine KJ.packs (tag:=52) (key:=g3) (F:=F (i+1)) (some ⟨g5,0,none⟩,c5) (by rw [hFi];exact xP) ?_
  exact yHP xS (xN)
 ·refine KJ.unpack_at (F:=F r.length) xS (fun x=>?_)
  rw [hFi,List.take_length]
  repeat' (first|refine xst ?_|refine xsa ?_;intro _|refine xsb ?_ ?_<;>intro _<;>try omega|refine xsc ?_|fail)
  all_goals (exact xdn x)
 ·exact yHQ xS
end
def ofR (l:Rows):Rows:=l.foldl (fun r p=>yE4 r p.1 p.2) []
theorem yS5:∀ (l r:Rows),(l.foldl (fun r p=>yE4 r p.1 p.2) r).length≤r.length+l.length
 |[],r=>zW
 |p::l,r=>by
  have h1:=yS5 l (yE4 r p.1 p.2)
  have h2:=yIy r p.1 p.2
  rw [List.foldl_cons,zLj];omega
theorem yQD (r:Rows) (o:BOp):(yFj r o).length≤r.length+1:=by
 unfold yFj
 split
 ·have:(yF6 r o.key).length≤r.length:=List.length_filter_le _ _
  omega
 ·exact yIy _ _ _
theorem yCp:∀ (ops:List BOp) (r:Rows),(yAJ r ops).length≤r.length+ops.length
 |[],r=>by simp [yAJ]
 |o::ops,r=>by
  have h1:=yCp ops (yFj r o)
  have h2:=yQD r o
  have e:yAJ r (o::ops)=yAJ (yFj r o) ops:=rfl
  rw [e,zLj];omega
theorem yJn {r:Rows} {ops:List BOp} {i:Nat} {o:BOp} (h:ops[i]? = some o):yAJ r (ops.take (i+1))=yFj (yAJ r (ops.take i)) o:=by
 unfold yAJ
 rw [List.take_add_one,h,List.foldl_append];rfl
section
variable {W:World}
theorem yCY {N:List Nd} {ta:Option Addr} {r:Rows} {p:Nat} {tb:Int} (hT:TbOk N ta r) (A:SP) (a:Option Addr) (c:Nat) (ops:List BOp) (hL:Lv W opC 3 A a ops) (hl:r.length+ops.length≤144115188075855872) :
 Ct prog W 29 [zPp p,.slice a ops.length c] [A,tbP p ta tb,arP N] (fun _:TbQ N (yAJ r ops)=>.tuple #[]) (fun x=>[A,tbP p x.1.2.1 x.1.2.2,arP x.1.1]):=by
 refine Ct.enter func29 rfl ntmps29 zW (fun R=>?_)
 repeat' (first|refine xst ?_|refine xsa ?_;intro _|refine xsb ?_ ?_<;>intro _<;>try omega|refine xsc ?_|fail)
 refine yAz (fun x:{x:Nat × List Nd × Option Addr × Int//x.1≤ops.length∧(∀ y ∈ N,y ∈ x.2.1)∧TbOk x.2.1 x.2.2.1 (yAJ r (ops.take x.1))}=>[(0,zPp p),(6,.slice a ops.length c),(7,.int .i64 (ops.length:Nat)),(8,.int .i64 (x.1.1:Nat))])
  (fun x=>[A,tbP p x.1.2.2.1 x.1.2.2.2,arP x.1.2.1]++R) (fun x=>ops.length-x.1.1) ⟨(0,N,ta,tb),zLA _,fun y hy=>hy,hT⟩ xB (xN) (fun ⟨(i,N1,a1,b1),hi,hN,hT⟩=>?_)
 dsimp only at hi hN hT ⊢
 by_cases hlt:i<ops.length
 ·have ql:decide ((i:Int)<(ops.length:Nat))=true:=zY zO
  obtain ⟨o,ho⟩:∃ s,ops[i]? = some s:=⟨_,zLb hlt⟩
  refine KJ.lvSome hL xS zO (fun b of hab=>?_)
  subst hab
  have hoff:of+Int.toNat (i:Int)*3=of+i*3:=zW
  have hlen:=yCp (ops.take i) r
  rw [zLg] at hlen
  have hnx:=yJn (r:=r) ho
  obtain ⟨del,key,val⟩:=o
  cases del with
  |true=>
   have cd:=yXO (W:=W) (p:=p) (b:=b1) (k:=key) hT zO
   rw [show yF6 (yAJ r (ops.take i)) key=yAJ r (ops.take (i+1)) from hnx.symm] at cd
   repeat' (first|refine yAs ?_;refine yAq rfl (fun g5=>?_)|refine yAb ?_;refine xca cd fun x=>?_;obtain ⟨⟨N2,a2,b2⟩,g2,t2⟩:=x;dsimp only at g2 t2 ⊢|refine yAj ?_;refine yAa (yBX yBy hL rfl rfl xS hoff ho) ?_|refine yAa (yAd (r:=((i+1:Nat):Int)) rfl rfl zO zO) ?_|refine yAa (yAc rfl rfl ql) ?_|refine xst ?_|refine xsa ?_;intro _|refine xsb ?_ ?_<;>intro _<;>try omega|refine xsc ?_|fail)
   all_goals refine yAp ⟨(i+1,N2,a2,b2),hlt,fun y hy=>g2 y (hN y hy),t2⟩ (by show ops.length-(i+1)<ops.length-i;omega) xB (xN)
  |false=>
   have cp:=yOl (W:=W) (p:=p) (b:=b1) (k:=key) (v:=val) hT zO
   rw [show yE4 (yAJ r (ops.take i)) key val=yAJ r (ops.take (i+1)) from hnx.symm] at cp
   repeat' (first|refine yAs ?_;refine yAq rfl (fun g5=>?_)|refine yAb ?_;refine xca cp fun x=>?_;obtain ⟨⟨N2,a2,b2⟩,g2,t2⟩:=x;dsimp only at g2 t2 ⊢|refine yAj ?_;refine yAa (yBX yBy hL rfl rfl xS hoff ho) ?_|refine yAa (yAd (r:=((i+1:Nat):Int)) rfl rfl zO zO) ?_|refine yAa (yAc rfl rfl ql) ?_|refine xst ?_|refine xsa ?_;intro _|refine xsb ?_ ?_<;>intro _<;>try omega|refine xsc ?_|fail)
   all_goals refine yAp ⟨(i+1,N2,a2,b2),hlt,fun y hy=>g2 y (hN y hy),t2⟩ (by show ops.length-(i+1)<ops.length-i;omega) xB (xN)
 have ql:decide ((i:Int)<(ops.length:Nat))=false:=zZ zO
 obtain rfl:i=ops.length:=zO
 rw [List.take_length] at hT
 repeat' (first|refine yAa (yAc rfl rfl ql) ?_|refine xst ?_|refine xsa ?_;intro _|refine xsb ?_ ?_<;>intro _<;>try omega|refine xsc ?_|fail)
 all_goals (exact xdn ⟨(N1,a1,b1),hN,hT⟩)
end
theorem yET {P:Program} {W:World} {n:Nat} {E:Env} {H:List SP} {t:TypeId} {x y z:Operand} {l r:List UInt8} {i j:Int} {ki kj:IntKind} (hx:Env.ev E x=some (strV l)) (hy:Env.ev E y=some (.int ki i)) (hz:Env.ev E z=some (.int kj j)) [hu:UIs P t .string] (hb:0≤i∧i≤j∧j≤l.length) (h:(l.take j.toNat).drop i.toNat=r):Ev P W n E H (.slice t x (some y) (some z) none) (strV r):=by
 subst h;exact yDH hx hy hz hb
theorem yHa (most:Nat) (l:List UInt8):(∃ e,ru l=.bad e∧rtx most l=.bad e∧txA most l=0)∨(∃ n t,ru l=.ok n t∧most<n∧rtx most l=.bad 3∧txA most l=0)∨(∃ n t,ru l=.ok n t∧¬ most<n∧t.length<n∧rtx most l=.bad 1∧txA most l=(vu n).length)∨(∃ n t,ru l=.ok n t∧¬ most<n∧¬ t.length<n∧rtx most l=.ok (t.take n) (t.drop n)∧txA most l=(vu n).length+n):=by
 unfold rtx txA
 cases h:ru l with
 |bad e=>exact .inl ⟨e,rfl,rfl,rfl⟩
 |ok n t=>
  dsimp only
  by_cases h1:most<n
  ·rw [if_pos h1,if_pos h1];exact .inr (.inl ⟨n,t,rfl,h1,rfl,rfl⟩)
  ·rw [if_neg h1,if_neg h1]
   by_cases h2:t.length<n
   ·rw [if_pos h2,if_pos h2];exact .inr (.inr (.inl ⟨n,t,rfl,h1,h2,rfl,rfl⟩))
   ·rw [if_neg h2,if_neg h2];exact .inr (.inr (.inr ⟨n,t,rfl,h1,h2,rfl,rfl⟩))
section
variable {W:World} {F:Nat→Addr} {p:Nat} {s:List UInt8} {a:Nat}
theorem yVs (br bm most:Nat) (hm:most≤9223372036854775807) (ha:a≤s.length) (hs:s.length≤9223372036854775807) (e1:W.cell? ⟨7,0,none⟩=some (yAr F 1)) (e2:W.cell? ⟨8,0,none⟩=some (yAr F 2)) (e3:W.cell? ⟨9,0,none⟩=some (yAr F 3)) :
 Ct prog W 165 [zPp br,zPp bm] [rdP p s a,yAi br [zPp p] 143,yAi bm [.int .i64 (most:Nat)] 3] (fun _:Unit=>.tuple #[strV (rdS (rtx most (s.drop a))),yAr F (rdE (rtx most (s.drop a)))])
  (fun _=>[rdP p s (a+txA most (s.drop a)),yAi br [zPp p] 143,yAi bm [.int .i64 (most:Nat)] 3]):=by
 have cu0:=fun q hq=>yDd (W:=W) (F:=F) (p:=p) (s:=s) (a:=a) most hm ha hs e1 e2 e3 q hq
 rcases yHa most (s.drop a) with ⟨e,h1,h2,h3⟩|⟨n,t,h1,h4,h2,h3⟩|⟨n,t,h1,h4,h5,h2,h3⟩|⟨n,t,h1,h4,h5,h2,h3⟩
 ·have cu:=cu0 _ h1
  have hne:=yIs (F:=F) (e:=e) (by rcases yC2 h1 with h|h <;> omega)
  rw [show yNn most (.bad e)=0 from rfl,show yGy most (.bad e)=e from rfl,show yNm most (.bad e)=0 from rfl,zLz] at cu
  rw [h2,h3,zLz]
  refine Ct.enter func165 rfl ntmps165 zW (fun R=>?_)
  repeat' (first|refine yAb ?_;refine xca cu fun _=>?_|refine yAa (yCc rfl hne) ?_|refine xst ?_|refine xsa ?_;intro _|refine xsb ?_ ?_<;>intro _<;>try omega|refine xsc ?_|refine xdr 5 yPl ?_|refine xdr 7 yPm ?_|refine xsd ?_ ?_|exact Rech.nil|exact xdn ()|fail)
 ·have cu:=cu0 _ h1
  obtain ⟨k1,k2,k3⟩:=yLD (t:=t) h4
  rw [k1,k2,k3,zLz] at cu
  rw [h2,h3,zLz]
  refine Ct.enter func165 rfl ntmps165 zW (fun R=>?_)
  repeat' (first|refine yAb ?_;refine xca cu fun _=>?_|refine xst ?_|refine xsa ?_;intro _|refine xsb ?_ ?_<;>intro _<;>try omega|refine xsc ?_|refine xdr 5 yPl ?_|refine xdr 7 yPm ?_|refine xsd ?_ ?_|exact Rech.nil|exact xdn ()|fail)
 ·have cu:=cu0 _ h1
  obtain ⟨k1,k2,k3⟩:=yKs (t:=t) h4
  rw [k1,k2,k3] at cu
  rw [h2,h3]
  have hf:=yEc h1
  have ht:=congrArg List.length (yCX h1)
  rw [zLf] at ht
  obtain ⟨a1,ha1⟩:∃ a1,a1=a+(vu n).length:=⟨_,rfl⟩
  rw [← ha1] at cu hf ht ⊢
  have cl:=yFQ (W:=W) (p:=p) (s:=s) (a:=a1) hf zO
  have ql:decide (((s.length-a1:Nat):Int)<((n:Nat):Int))=true:=zY zO
  refine Ct.enter func165 rfl ntmps165 zW (fun R=>?_)
  repeat' (first|(refine yAb ?_;first|refine xca cl fun _=>?_|refine xca cu fun _=>?_)|refine yAj ?_;refine yAa (yAn rfl e1) ?_|refine yAa (yAc rfl rfl ql) ?_|refine xst ?_|refine xsa ?_;intro _|refine xsb ?_ ?_<;>intro _<;>try omega|refine xsc ?_|refine xdr 5 yPl ?_|refine xdr 7 yPm ?_|refine xsd ?_ ?_|exact Rech.nil|exact xdn ()|fail)
 ·have cu:=cu0 _ h1
  obtain ⟨k1,k2,k3⟩:=yKs (t:=t) h4
  rw [k1,k2,k3] at cu
  rw [h2,h3,← Nat.add_assoc]
  have hf:=yEc h1
  have htd:=yCX h1
  have ht:=congrArg List.length htd
  rw [zLf] at ht
  obtain ⟨a1,ha1⟩:∃ a1,a1=a+(vu n).length:=⟨_,rfl⟩
  rw [← ha1] at cu hf ht htd ⊢
  have cl:=yFQ (W:=W) (p:=p) (s:=s) (a:=a1) hf zO
  have ql:decide (((s.length-a1:Nat):Int)<((n:Nat):Int))=false:=zZ zO
  have hsl:(s.take (Int.toNat ((a1+n:Nat):Int))).drop (Int.toNat ((a1:Nat):Int))=t.take n:=by
   rw [zLe,zLe,htd,List.drop_take]
   congr 1;omega
  refine Ct.enter func165 rfl ntmps165 zW (fun R=>?_)
  repeat' (first|(refine yAb ?_;first|refine xca cl fun _=>?_|refine xca cu fun _=>?_)|refine yAQ ?_;refine yAa (yET rfl rfl rfl zO hsl) ?_|refine yAa (yAd (r:=((a1+n:Nat):Int)) rfl rfl zO zO) ?_|refine yAa (yBG (r:=((a1:Nat):Int)) rfl rfl zO zO) ?_|refine yAa (yAc rfl rfl ql) ?_|refine xst ?_|refine xsa ?_;intro _|refine xsb ?_ ?_<;>intro _<;>try omega|refine xsc ?_|refine xdr 5 yPl ?_|refine xdr 7 yPm ?_|refine xsd ?_ ?_|exact Rech.nil|exact xdn ()|fail)
theorem yDA (most:Nat) (hm:most≤9223372036854775807) (ha:a≤s.length) (hs:s.length≤9223372036854775807) (e1:W.cell? ⟨7,0,none⟩=some (yAr F 1)) (e2:W.cell? ⟨8,0,none⟩=some (yAr F 2)) (e3:W.cell? ⟨9,0,none⟩=some (yAr F 3)) (q:Rd (List UInt8)) (hq:rtx most (s.drop a)=q) :
 CtU prog W 136 [zPp p,.int .i64 (most:Nat)] [rdP p s a] (.tuple #[strV (rdS q),yAr F (rdE q)]) [rdP p s (a+rdT q)]:=by
 have cu:∀ br bm,Ct prog W 164 [zPp p,.func (.func 165) #[] #[zPp br,zPp bm]] [rdP p s a,yAi br [zPp p] 143,yAi bm [.int .i64 (most:Nat)] 3] (fun _:Unit=>.tuple #[strV (rdS q),yAr F (rdE q)])
  (fun _=>[rdP p s (a+rdT q),yAi br [zPp p] 143,yAi bm [.int .i64 (most:Nat)] 3]):=fun br bm=>by
  have cc:=yVs (W:=W) (F:=F) (p:=p) (s:=s) (a:=a) br bm most hm ha hs e1 e2 e3
  cases q with
  |bad e=>
   have hne:=yIs (F:=F) (e:=e) (by rcases yEj hq with h|h|h <;> omega)
   rw [hq] at cc
   rw [show rdT (.bad e)=0 from rfl,zLz]
   refine Ct.enter func164 rfl ntmps164 zW (fun R=>?_)
   repeat' (first|refine yGX ?_;refine yIw rfl xE rfl cc xP rfl (fun _=>?_)|refine yAa (yCc rfl hne) ?_|refine xst ?_|refine xsa ?_;intro _|refine xsb ?_ ?_<;>intro _<;>try omega|refine xsc ?_|exact xdn ()|fail)
  |ok y t=>
   rw [hq,yS4 hq] at cc
   refine Ct.enter func164 rfl ntmps164 zW (fun R=>?_)
   repeat' (first|refine yGX ?_;refine yIw rfl xE rfl cc xP rfl (fun _=>?_)|refine xst ?_|refine xsa ?_;intro _|refine xsb ?_ ?_<;>intro _<;>try omega|refine xsc ?_|exact xdn ()|fail)
 refine Ct.enter func136 rfl ntmps136 zW (fun R=>?_)
 repeat' (first|refine yA4 ?_;refine yA3 rfl xF rfl (fun g=>?_)|refine yAb ?_;refine xca (cu _ _) fun _=>?_|refine yCQ ?_;refine yAa (yCN rfl rfl) ?_|refine xst ?_|refine xsa ?_;intro _|refine xsb ?_ ?_<;>intro _<;>try omega|refine xsc ?_|exact xdn ()|fail)
end
end Go.Proofs.YtlnbkbfblhofbaaGreatDoor
