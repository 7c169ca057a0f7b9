/-
  BaW4, SrtX, BaN1.
-/
import Derived.Test.YtlnbkbfblhofbaaGreatDoorVEE
import Derived.Shelf.SlSortFuncK.WholeK
import Derived.Shelf.GgSortFunc.Tiny
import Derived.Test.YtlnbkbfblhofbaaGreatDoorVEU
import Derived.Deep.QuietTactic
set_option maxHeartbeats 64000000
namespace Go.Proofs.YtlnbkbfblhofbaaGreatDoor
open Go Go.RowKit
open Go.Proofs.Tryz
abbrev yIi:Pl:=(.op 0 (.op 1 (.op 2 (.op 3 (.op 4 (.op 5 (.op 6 (.op 7 (.op 8 (.op 9 (.op 10 (.op 11 .nil))))))))))))
abbrev yDq:Pl:=(.op 0 (.op 1 (.op 2 .nil)))
section
variable {W:World} {F:Nat→Addr}
theorem yHR (A:SP) (a:Option Addr) (c:Nat) (ops:List BOp) (hL:Lv W opC 3 A a ops) (hlen:(yBN ops).length+64≤140737488355328) (h63:ops.length≤140737488355328)
 (e4:(yEw ops).2=4→W.cell? ⟨10,0,none⟩=some (yAr F 4)) (e7:(yEw ops).2=7→W.cell? ⟨0,0,none⟩=some (yAr F 7)) :
 CtU prog W 45 [.slice a ops.length c] [A] (.tuple #[strV (yEw ops).1,yAr F (yEw ops).2]) [A]:=by
 have cn:=yJe (W:=W)
 have cu:∀ p,CtU prog W 68 [zPp p,.int .u64 (ops.length:Nat)] [WrP p []] (.tuple #[]) [WrP p (yFo ops 0)]:=fun p=>by
  have:=yDx (W:=W) (p:=p) (l:=[]) ops.length zO zW
  rw [yQx];exact this
 have e1:IntKind.u64.wrap ((ops.length:Nat):Int)=((ops.length:Nat):Int):=yAo _ zO
 refine Ct.enter func45 rfl ntmps45 zW (fun R=>?_)
 repeat' (first|refine xst ?_|refine xsa ?_;intro _|refine xsb ?_ ?_<;>intro _<;>try omega|refine xsc ?_|refine xdr 4 yIi ?_|refine xdr 5 yDq ?_|refine xdr 16 yDq ?_|refine xsd ?_ ?_|exact Rech.nil|fail)
 refine yAz (fun i:{i:Nat//(i=0∨i<ops.length)∧AdjTo ops (i+1)}=>[(0,.slice a ops.length c),(4,.int .i64 ((i.1+1:Nat):Int))])
  (fun i=>[A]++R) (fun i=>ops.length-i.1) ⟨0,.inl rfl,AdjTo.one ops⟩ xB (xN) (fun ⟨i,hi,hadj⟩=>?_)
 dsimp only
 by_cases hlt:i+1<ops.length
 ·have ql:decide (((i+1:Nat):Int)<(ops.length:Nat))=true:=zY zO
  obtain ⟨x,hx⟩:∃ s,ops[i]? = some s:=⟨_,zLb zO⟩
  obtain ⟨y,hy⟩:∃ s,ops[i+1]? = some s:=⟨_,zLb hlt⟩
  refine KJ.lvSome hL xS zO (fun b of hab=>?_)
  subst hab
  have ho1:of+Int.toNat ((i+1:Nat):Int)*3+1=of+(i+1)*3+1:=zW
  have ho0:of+Int.toNat ((i:Nat):Int)*3+1=of+i*3+1:=zW
  have kx:(opC x)[1]? = some (strV x.key):=rfl
  have ky:(opC y)[1]? = some (strV y.key):=rfl
  have hle:=yHL y.key x.key
  cases hl:Op.bytesLess x.key y.key with
  |true=>
   rw [hl,Bool.not_true] at hle
   repeat' (first|(refine yAj ?_;first|refine yAa (yBh yBy hL rfl rfl xS ho0 hx kx) ?_|refine yAa (yBh yBy hL rfl rfl xS ho1 hy ky) ?_)|refine yAa (yAd (r:=((i+1+1:Nat):Int)) rfl rfl zO zO) ?_|refine yAa (yBG (r:=((i:Nat):Int)) rfl rfl zO zO) ?_|refine yAa (yAc rfl rfl ql) ?_|refine yAa (yBb rfl rfl hle) ?_|refine xst ?_|refine xsa ?_;intro _|refine xsb ?_ ?_<;>intro _<;>try omega|refine xsc ?_|refine xdr 4 yIi ?_|refine xdr 5 yDq ?_|refine xdr 16 yDq ?_|refine xsd ?_ ?_|exact Rech.nil|fail)
   all_goals refine yAp ⟨i+1,.inr hlt,hadj.next hx hy hl⟩ (by show ops.length-(i+1)<ops.length-i;omega) xB (xN)
  |false=>
   rw [hl,Bool.not_false] at hle
   have he:=yMP (yST hx hy hl)
   have e4':=e4 (by rw [he])
   repeat' (first|(refine yAj ?_;first|refine yAa (yAn rfl e4') ?_|refine yAa (yBh yBy hL rfl rfl xS ho0 hx kx) ?_|refine yAa (yBh yBy hL rfl rfl xS ho1 hy ky) ?_)|refine yAa (yBG (r:=((i:Nat):Int)) rfl rfl zO zO) ?_|refine yAa (yAc rfl rfl ql) ?_|refine yAa (yBb rfl rfl hle) ?_|refine xst ?_|refine xsa ?_;intro _|refine xsb ?_ ?_<;>intro _<;>try omega|refine xsc ?_|refine xdr 4 yIi ?_|refine xdr 5 yDq ?_|refine xdr 16 yDq ?_|refine xsd ?_ ?_|exact Rech.nil|fail)
   all_goals exact xdn () (hc:=by rw [he];rfl)
 have ql:decide (((i+1:Nat):Int)<(ops.length:Nat))=false:=zZ zO
 have hr:yEv ops=true:=AdjTo.rises (ops:=ops) fun j x y hj hx hy=>hadj j x y zO hx hy
 repeat' (first|(refine yAb ?_;first|refine xca cn fun p=>?_|refine xca (cu p) fun _=>?_)|refine yAa (yAg rfl e1) ?_|refine yAa (yAc rfl rfl ql) ?_|refine xst ?_|refine xsa ?_;intro _|refine xsb ?_ ?_<;>intro _<;>try omega|refine xsc ?_|refine xdr 4 yIi ?_|refine xdr 5 yDq ?_|refine xdr 16 yDq ?_|refine xsd ?_ ?_|exact Rech.nil|fail)
 refine yAz (fun i:{i:Nat//i≤ops.length∧∀ j o,ops[j]? = some o→j<i→yJc o=true}=>[(5,zPp p),(33,.slice a ops.length c),(34,.int .i64 (ops.length:Nat)),(35,.int .i64 (i.1:Nat))])
  (fun i=>[WrP p (yFo ops i.1),A]++R) (fun i=>ops.length-i.1) ⟨0,zLA _,fun _ _ _ h=>absurd h zO⟩ xB (xN) (fun ⟨i,hi,hf⟩=>?_)
 dsimp only
 by_cases hlt:i<ops.length
 ·have ql:decide ((i:Int)<(ops.length:Nat))=true:=zY zO
  obtain ⟨o,ho⟩:∃ s,ops[i]? = some s:=⟨_,zLb hlt⟩
  refine KJ.lvSome hL xS zO (fun b of hab=>?_)
  subst hab
  have hoff:of+Int.toNat (i:Int)*3=of+i*3:=zW
  have htot:=ySV ho
  have hnx:=yKm ho
  have hfn:yJc o=true→∀ j o',ops[j]? = some o'→j<i+1→yJc o'=true:=fun hfo j o' h1 h2=>by
   by_cases e:j=i
   ·subst e;rw [ho] at h1;cases h1;exact hfo
   ·exact hf j o' h1 zO
  obtain ⟨X,hX⟩:∃ X,X=yFo ops i:=⟨_,rfl⟩
  rw [← hX] at htot hnx ⊢
  obtain ⟨del,key,val⟩:=o
  have tk:=yIh key
  have tv:=yIh val
  cases del with
  |false=>
   rw [yJg] at htot hnx
   simp only [zLj,zLa] at htot
   have c1:=yPh (W:=W) (p:=p) (l:=X) 0 zO
   have c2:=yG6 (W:=W) (p:=p) (l:=X++[0]) key (by simp only [zLa,List.length_singleton];omega)
   have c3:CtU prog W 97 [zPp p,strV val] [WrP p (X++[0]++tx key)] (.tuple #[]) [WrP p (yFo ops (i+1))]:=by
    have:=yG6 (W:=W) (p:=p) (l:=X++[0]++tx key) val (by simp only [zLa,List.length_singleton];omega)
    rw [hnx]
    simpa only [zLd,List.singleton_append,List.cons_append,List.nil_append] using this
   repeat' (first|refine yAs ?_;refine yAq rfl (fun g5=>?_)|(refine yAb ?_;first|refine xca c3 fun _=>?_|refine xca c2 fun _=>?_|refine xca c1 fun _=>?_)|refine yAj ?_;refine yAa (yBX yBy hL rfl rfl xS hoff ho) ?_|refine yAa (yAd (r:=((i+1:Nat):Int)) rfl rfl zO zO) ?_|refine yAa (yAc rfl rfl ql) ?_|refine xst ?_|refine xsa ?_;intro _|refine xsb ?_ ?_<;>intro _<;>try omega|refine xsc ?_|refine xdr 4 yIi ?_|refine xdr 5 yDq ?_|refine xdr 16 yDq ?_|refine xsd ?_ ?_|exact Rech.nil|fail)
   all_goals refine yAp ⟨i+1,hlt,hfn rfl⟩ (by show ops.length-(i+1)<ops.length-i;omega) xB (xN)
  |true=>
   by_cases hv:val=[]
   ·subst hv
    rw [yJf] at htot hnx
    simp only [zLj] at htot
    have c1:=yPh (W:=W) (p:=p) (l:=X) 1 zO
    have c2:CtU prog W 97 [zPp p,strV key] [WrP p (X++[1])] (.tuple #[]) [WrP p (yFo ops (i+1))]:=by
     have:=yG6 (W:=W) (p:=p) (l:=X++[1]) key (by simp only [zLa,List.length_singleton];omega)
     rw [hnx]
     simpa only [zLd,List.singleton_append,List.cons_append,List.nil_append] using this
    repeat' (first|refine yAs ?_;refine yAq rfl (fun g5=>?_)|(refine yAb ?_;first|refine xca c2 fun _=>?_|refine xca c1 fun _=>?_)|refine yAj ?_;refine yAa (yBX yBy hL rfl rfl xS hoff ho) ?_|refine yAa (yAd (r:=((i+1:Nat):Int)) rfl rfl zO zO) ?_|refine yAa (yEn rfl rfl rfl) ?_|refine yAa (yAc rfl rfl ql) ?_|refine xst ?_|refine xsa ?_;intro _|refine xsb ?_ ?_<;>intro _<;>try omega|refine xsc ?_|refine xdr 4 yIi ?_|refine xdr 5 yDq ?_|refine xdr 16 yDq ?_|refine xsd ?_ ?_|exact Rech.nil|fail)
    all_goals refine yAp ⟨i+1,hlt,hfn rfl⟩ (by show ops.length-(i+1)<ops.length-i;omega) xB (xN)
   ·have he:=yOg hr ho (by unfold yJc;simp [hv])
    have e7':=e7 (by rw [he])
    repeat' (first|refine yAs ?_;refine yAq rfl (fun g5=>?_)|(refine yAj ?_;first|refine yAa (yAn rfl e7') ?_|refine yAa (yBX yBy hL rfl rfl xS hoff ho) ?_)|refine yAa (yEq rfl rfl hv) ?_|refine yAa (yAc rfl rfl ql) ?_|refine xst ?_|refine xsa ?_;intro _|refine xsb ?_ ?_<;>intro _<;>try omega|refine xsc ?_|refine xdr 4 yIi ?_|refine xdr 5 yDq ?_|refine xdr 16 yDq ?_|refine xsd ?_ ?_|exact Rech.nil|fail)
    all_goals exact xdn () (hc:=by rw [he];rfl)
 have ql:decide ((i:Int)<(ops.length:Nat))=false:=zZ zO
 obtain rfl:i=ops.length:=zO
 have he:=ySU hr (fun j o h1 h2=>hf j o h1 h2)
 rw [yMQ]
 have hp:=ySW ops ops.length
 rw [yMQ] at hp
 have co:=yJh (W:=W) (p:=p) (l:=yBN ops) hp
 repeat' (first|refine yAb ?_;refine xca co fun _=>?_|refine yAa (yAc rfl rfl ql) ?_|refine xst ?_|refine xsa ?_;intro _|refine xsb ?_ ?_<;>intro _<;>try omega|refine xsc ?_|refine xdr 4 yIi ?_|refine xdr 5 yDq ?_|refine xdr 16 yDq ?_|refine xsd ?_ ?_|exact Rech.nil|fail)
 all_goals exact xdn () (hc:=by rw [he];rfl)
end
section
open Go Go.RowKit Go.Shelf Go.Lib Go.Sort
section
variable {α:Type} {enc:α→List Value} {k:Nat}
theorem yKx [Inhabited α] (hk:∀ x,(enc x).length=k) (d:Array α):(flatK enc k d).toList=d.toList.flatMap enc:=by
 apply List.ext_getElem?
 intro t
 by_cases ht:t<d.size*k
 ·have k0:0<k:=by rcases Nat.eq_zero_or_pos k with h|h;· subst h;simp at ht
                  ·exact h
  have hi:t / k<d.size:=Nat.div_lt_of_lt_mul (by rw [Nat.mul_comm];exact ht)
  have hc:t % k<k:=Nat.mod_lt _ k0
  have e2:=yGY hk d.toList (t / k) (t % k) hc
  rw [Nat.div_add_mod'] at e2
  rw [e2]
  have e1:=get_flatK enc k d t ht
  have hs:t<(flatK enc k d).toList.length:=by simpa using ht
  have h3:(flatK enc k d).toList[t]? = some (flatK enc k d)[t]!:=by
   rw [zLb hs,getElem!_pos _ t (by simpa using ht)];simp
  rw [h3,e1]
  have h4:d.toList[t / k]? = some d[t / k]!:=by
   rw [zLb (by simpa using hi),getElem!_pos d _ hi];simp
  rw [h4]
  have h5:t % k<(enc d[t / k]!).length:=by rw [hk];exact hc
  simp only [Option.bind_some]
  rw [zLb h5,getElem!_pos (enc d[t / k]!) (t % k) h5]
 ·rw [List.getElem?_eq_none (by simpa using ht),List.getElem?_eq_none (by rw [yD9 hk];simpa using ht)]
end
section
variable {P:Program} {W:World} {ρ:Ren} {α:Type} [Inhabited α]
theorem St.sorted {w:World} {H R:List SP} {g0 n cap k e m:Nat} {xs:List Value} {enc:α→List Value} (hk:∀ x,(enc x).length=k) (s:St W H w) (hsel:Sel (yAP (.slice (some ⟨g0,0,none⟩) n cap) e k n xs) H R) (d':Array α) (hd:d'.size=n) (os:Array Obj) :
 St W (yAP (.slice (some ⟨g0,0,none⟩) n cap) e k n (d'.toList.flatMap enc)::R) (Go.Sort.grow (putRowK enc k (Sort.ahead w m) g0 0 d') os):=by
 obtain ⟨hxl,hr⟩:=s.row hsel
 rcases hr with ⟨hv,_⟩|⟨g,cp,cur,hv,hbg,hg,hnc,hcm,hcs,hx⟩
 ·cases hv
 cases hv
 have hgs:g0<w.heap.size:=(zLh.1 hg).1
 have hfl:(flatK enc k d').size=n*k:=by rw [size_flatK,hd]
 have hh:(Go.Sort.grow (putRowK enc k (Sort.ahead w m) g0 0 d') os).heap[g0]? = some (.cells (putCells id 0 (flatK enc k d') cur) e (0,0)):=by
  rw [heap_grow_old _ _ (by unfold putRowK;rw [size_putRow];exact hgs)]
  show (mapBlock (Sort.ahead w m) g0 (putCells id 0 (flatK enc k d'))).heap[g0]? = _
  simp only [mapBlock,heap_ahead,Array.getElem?_modify,hg]
  rfl
 refine s.rowStep hsel ⟨by rw [yD9 hk];simp [hd],.inr ⟨g0,cap,_,rfl,hbg,hh,hnc,hcm,by simpa [putCells] using hcs,?_⟩⟩ ⟨rfl,rfl,rfl,by rw [size_grow];unfold putRowK;rw [size_putRow];show w.heap.size≤w.heap.size+os.size;omega,fun j hj hne=>?_⟩ (fun g' hg'=>.inl hg')
 ·rw [← yKx hk d']
  have hnk:n*k≤cur.size:=by rw [hcs];exact zLt k hnc
  apply List.ext_getElem?
  intro t
  by_cases ht:t<n*k
  ·rw [List.getElem?_take_of_lt ht]
   have h1:(putCells id 0 (flatK enc k d') cur).toList[t]? = some ((flatK enc k d')[t]!):=by
    simp only [putCells,Array.getElem?_toList,Array.getElem?_mapIdx]
    rw [Array.getElem?_eq_getElem zO]
    simp [hfl,ht]
   rw [h1,zLb (by simpa [hfl] using ht),getElem!_pos _ t zO]
   simp
  ·rw [List.getElem?_eq_none (by simp;omega),List.getElem?_eq_none (by simp [hd];omega)]
 ·rw [heap_grow_old _ _ (by unfold putRowK;rw [size_putRow];exact hj)]
  show (mapBlock (Sort.ahead w m) g0 _).heap[j]? = _
  have:g0≠j:=fun e=>hne (by simp [Value.ownBlock,e])
  simp [mapBlock,Array.getElem?_modify,this]
theorem St.grown {w:World} {H:List SP} (s:St W H w) (os:Array Obj):St W H (Go.Sort.grow w os):=by
 have h:=St.act (A:=[]) (B:=[]) (H:=H) (w':=Go.Sort.grow w os) s rfl rfl rfl (by rw [size_grow];omega) (fun h1 _ _=>⟨fun _=>none,trivial,(fun _ _ q=>by cases q),(fun _ _ q=>by cases q),fun k hk _=>heap_grow_old w os hk⟩)
 exact h
def yWI (P:Program) (g:FuncId) (bs k:Nat) (enc:α→List Value) (lt:α→α→Bool):Prop:=
 ∀ (w:World) (blk c:Nat) (d:Array α),HoldsK enc k w blk 0 d→w.cell? ⟨bs,0,none⟩=some (.slice (some ⟨blk,0,none⟩) d.size c)→d.size<4611686018427387904→∀ i j:Nat,i<d.size→j<d.size→
  Calls P g #[.int .i64 i,.int .i64 j,zPp bs] w fun e w'=>e=.returned (.bool (lt d[i]! d[j]!))∧∃ q,w'=w.drewN q
theorem yXU (L:LaysGg.n6 P ρ) (t e:TypeId) (i ie:TypeInfo) (hi:P.info? t=some i) (hd:i.desc=.slice e) (hpk:P.packed t=false) (hie:P.info? e=some ie) (ke:Nat) (hke:∀ w,(Extern.Rtype.kind e).run P w=.ok ke w)
 (enc:α→List Value) (k:Nat) (hk:∀ x,(enc x).length=k) (hs1:ie.size=k) (hagg:∀ w,(isAgg e).run P w=.ok true w) (h1:∀ x,∀ v ∈ enc x,v.oneCell'=true) (lt:α→α→Bool) (hO:SWO lt) (g:Nat)
 (eg : ∀ args w, (callFunc g args).run P w = .ok (.enter g args) w) (hf : ∀ n, ∃ f, P.funcs.findIdx? (·.name == "internal/reflectlite" ++ ".Swapper$" ++ toString (swapperK n ie ke)) = some f ∧ (2 ≤ n → ∃ gS, ∀ args W, (callFunc f args).run P W = ((Extern.ReflectliteSwapper.swap gS args).run P W).andThen fun v w' => .ok (.value v) w'))
 (bs T:Nat) (hless:yWI P g bs k enc lt) (l:List α) (hl:l.length<4611686018427387904) (v:Value) :
 Ct P W (ρ.f 6) [.iface t v,.func (.func g) #[] #[zPp bs]] [yAi bs [v] T,yAP v e k l.length (l.flatMap enc)] (fun _:{l':List α//l'.Perm l∧l'.Pairwise fun x y=>lt y x=false}=>.tuple #[]) (fun x=>[yAi bs [v] T,yAP v e k l.length (x.1.flatMap enc)]):=by
 refine ⟨fun R w s=>?_⟩
 obtain ⟨f,hf1,hf2⟩:=hf l.length
 have hs0:=(s.blk (R:=yAP v e k l.length (l.flatMap enc)::R) .here).2
 have hcell:w.cell? ⟨bs,0,none⟩=some v:=by rw [hs0.cell];rfl
 have hbs:bs<w.heap.size:=World.block_lt_of_cell? w ⟨bs,0,none⟩ hcell
 have hsel:Sel (yAP v e k l.length (l.flatMap enc)) (yAi bs [v] T::yAP v e k l.length (l.flatMap enc)::R) (yAi bs [v] T::R):=.there .here
 have hrow:=s.row hsel
 by_cases h2:l.length≤1
 ·have hshape:∃ p c,v=.slice p l.length c:=by
   rcases hrow.2 with ⟨hv,h0⟩|⟨gg,cp,_,hv,_⟩
   ·exact ⟨none,0,by rw [hv,h0]⟩
   ·exact ⟨_,cp,hv⟩
  obtain ⟨p,c,rfl⟩:=hshape
  refine (Any.sort_Slice_tiny L t e i ie hi hd hpk hie ke hke p l.length c h2 f hf1 (.func g) #[] #[zPp bs] w).mono ?_
  rintro en w' ⟨rfl,os,rfl⟩
  refine ⟨⟨l,.refl _,?_⟩,rfl,s.grown os⟩
  match l,h2 with
  |[],_=>exact .nil
  |[x],_=>exact List.pairwise_singleton _ _
 ·rcases hrow.2 with ⟨_,h0⟩|⟨gg,cp,cur,rfl,hbg,hg,hnc,hcm,hcs,hx⟩
  ·omega
  obtain ⟨gS,hx2⟩:=hf2 zO
  have hgs:gg<w.heap.size:=(zLh.1 hg).1
  have hne:bs≠gg:=by
   obtain ⟨g1,g2,dj,hA,hH,l1,l2⟩:=(show St W ([yAi bs [.slice (some ⟨gg,0,none⟩) l.length cp] T]++yAP (.slice (some ⟨gg,0,none⟩) l.length cp) e k l.length (l.flatMap enc)::R) w from s).split
   intro q
   subst q
   obtain ⟨ha,_,_,le,_,hd0,_⟩:=hA
   obtain ⟨hb,_,_,leb,_,⟨_,hdb⟩,_⟩:=hH
   rcases hdb with ⟨hv0,_⟩|⟨g'',cap',cur',hv0,hh0,_⟩
   ·cases hv0
   ·cases hv0
    have:=dj bs _ (le _ _ hd0)
    rw [leb _ _ hh0] at this;cases this
  have hH:HoldsK enc k w gg 0 l.toArray:=by
   intro j hj
   rw [size_flatK] at hj
   have hj:j<l.length*k:=by simpa using hj
   have hjc:j<cur.size:=by rw [hcs];exact Nat.lt_of_lt_of_le hj (zLt k hnc)
   rw [zLq]
   have hfl:=yKx hk l.toArray
   refine ⟨?_,by simp [World.frozen?,hg]⟩
   rw [cell_of_row w gg j _ _ _ hg]
   have h3:(cur.toList.take (l.length*k))[j]? = cur[j]?:=by rw [List.getElem?_take_of_lt hj];simp
   rw [← h3,hx,← (show l.toArray.toList=l from rfl),← hfl,zLb (by simpa using hj),getElem!_pos _ j (by simpa using hj)]
   simp
  have hls:LessReadsK P g #[zPp bs] enc k lt gg 0 l.toArray.size w:=by
   intro m os dk hs i j hi hj
   have e:sortWorldK enc k w gg 0 m dk os=putRowK enc k (Go.Sort.grow (Sort.ahead w m) os) gg 0 dk:=by
    unfold sortWorldK;rw [putRowK_grow _ _ (Sort.ahead w m) _ gg 0 _ hgs]
   have hHg:HoldsK enc k (Go.Sort.grow (Sort.ahead w m) os) gg 0 l.toArray:=holdsK_grow _ _ _ _ gg 0 _ hgs (holdsK_ahead _ _ _ _ _ _ _ hH)
   refine hless _ gg cp dk ?_ ?_ (by rw [hs];simpa using hl) i j zO zO
   ·rw [e];exact holdsK_putRowK _ _ _ gg 0 _ dk hHg hs
   ·rw [e,cell?_putRowK_other _ _ _ gg 0 dk _ (by exact hne),cell?_grow _ _ _ (by exact hbs)]
    rw [hs];exact hcell
  refine (Any.sort_Slice_cells_sorted L t e i ie hi hd hpk hie ke hke enc k hk hs1 hagg h1 lt hO g #[zPp bs] eg gg 0 cp l.toArray (by simp;omega) (by simpa using hl) f (by simpa using hf1) gS hx2 w hls hH hgs).mono ?_
  rintro en w' ⟨rfl,d',n,os,hp,hso,rfl⟩
  have hsz:d'.size=l.length:=by simpa using hp.1
  have hperm:d'.toList.Perm l:=by
   have:=hp.2.2
   simp only [List.size_toArray] at this
   rw [← hsz] at this
   simp only [Array.extract_size] at this
   rw [hsz] at this
   simpa using this
  refine ⟨⟨d'.toList,hperm,?_⟩,rfl,?_⟩
  ·rw [List.pairwise_iff_getElem]
   intro a b ha hb hab
   have ha':a<d'.size:=by simpa using ha
   have hb':b<d'.size:=by simpa using hb
   have:=hso a b (zLA _) hab (by simp;omega)
   rw [getElem!_pos d' a ha',getElem!_pos d' b hb'] at this
   simpa using this
  ·have st:=St.sorted (m:=n) hk s hsel d' hsz os
   exact st.perm (.swap _ _ _)
theorem yMX {n:Nat} (h:2≤n) (ie:TypeInfo) (ke:Nat):swapperK n ie ke=swapperK 2 ie ke:=by
 have c:(n == 0)=false:=by simp;omega
 have d:(n == 1)=false:=by simp;omega
 simp [swapperK,c,d]
theorem yVv {ie : TypeInfo} {ke a b f k : Nat} {gS : Bool} (h1 : P.funcs.findIdx? (·.name == "internal/reflectlite" ++ ".Swapper$" ++ toString 1) = some a) (h2 : P.funcs.findIdx? (·.name == "internal/reflectlite" ++ ".Swapper$" ++ toString 2) = some b)
 (hk : swapperK 2 ie ke = k) (h3 : P.funcs.findIdx? (·.name == "internal/reflectlite" ++ ".Swapper$" ++ toString k) = some f) (hx : ∀ args W, (callFunc f args).run P W = ((Extern.ReflectliteSwapper.swap gS args).run P W).andThen fun v w' => .ok (.value v) w') :
 ∀ n, ∃ f, P.funcs.findIdx? (·.name == "internal/reflectlite" ++ ".Swapper$" ++ toString (swapperK n ie ke)) = some f ∧ (2 ≤ n → ∃ gS, ∀ args W, (callFunc f args).run P W = ((Extern.ReflectliteSwapper.swap gS args).run P W).andThen fun v w' => .ok (.value v) w') := by
 intro n
 match n with
 |0=>exact ⟨a,h1,fun h=>by omega⟩
 |1=>exact ⟨b,h2,fun h=>by omega⟩
 |n+2=>exact ⟨f,by rw [yMX zO,hk];exact h3,fun _=>⟨gS,hx⟩⟩
end
end
section
open Go Go.RowKit Go.Shelf Go.Lib Go.Sort
def ltKey (a b:BOp):Bool:=Op.bytesLess a.key b.key
theorem MapOk.norm {ops:List BOp} {m:BMap} (h:MapOk ops m) {l:List BOp} (hp:l.Perm (m.map (·.2))) (hs:l.Pairwise fun x y=>ltKey y x=false):l=yA1 ops:=by
 have hk:∀ p ∈ m,p.2.key=p.1:=fun p hp=>by
  have:=yR5 h.1 hp
  rw [h.2] at this
  exact (yGn this).1
 have hm:(m.map (·.2)).map BOp.key=m.map (·.1):=by
  rw [List.map_map]
  exact List.map_congr_left hk
 refine yUK (yLy hs ?_) fun x=>?_
 ·have:=(hp.map BOp.key).nodup_iff
  rw [this,hm];exact h.1
 ·rw [hp.mem_iff,← h.2]
  constructor
  ·intro hx
   obtain ⟨p,h1,rfl⟩:=List.mem_map.1 hx
   rw [hk p h1]
   exact yR5 h.1 h1
  ·intro hx
   exact List.mem_map.2 ⟨_,yMl hx,rfl⟩
theorem yXV:SWO ltKey where
 irrefl:=fun x=>yDg _
 trans:=fun x y z h1 h2=>yGN h1 h2
 ntrans:=fun x y z h1 h2=>by
  unfold ltKey at *
  by_cases e:x.key=y.key
  ·rw [e];exact h2
  ·by_cases e2:y.key=z.key
   ·rw [← e2];exact h1
   ·exact yFi (yGN (yIW h2 e2) (yIW h1 e))
noncomputable def xAQ:TypeInfo:=(prog.info? 22).get zK
noncomputable def opT:TypeInfo:=(prog.info? 60).get zK
theorem yXW (bs:Nat):yWI prog 95 bs 3 opC ltKey:=by
 intro w blk c d hH hs hsz i j hi hj
 have ci:=(hH.cell (i:=i) (c:=1) hi zO).1
 have cj:=(hH.cell (i:=j) (c:=1) hj zO).1
 have ei:(opC d[i]!)[1]! = strV d[i]!.key:=rfl
 have ej:(opC d[j]!)[1]! = strV d[j]!.key:=rfl
 rw [ei,zLq] at ci
 rw [ej,zLq] at cj
 go_enter func95,ntmps95
 go_wp2
 go_quiet (fail)
 go_wp2
 go_ret
 exact ⟨by simp [ltKey,hi,hj],nq,rfl⟩
theorem yXX {W:World} (bs T:Nat) (l:List BOp) (hl:l.length<4611686018427387904) (v:Value) :
 Ct prog W 94 [.iface 22 v,.func (.func 95) #[] #[zPp bs]] [yAi bs [v] T,lsP opC 60 3 v l]
  (fun _:{l':List BOp//l'.Perm l∧l'.Pairwise fun x y=>ltKey y x=false}=>.tuple #[]) (fun x=>[yAi bs [v] T,lsP opC 60 3 v x.1]):=by
 have h:=yXU (W:=W) Tryz.sl6 22 60 xAQ opT zK zK zK zK 25 (fun _=>by kernel_rfl) opC 3 (fun _=>rfl) zK (fun _=>by kernel_rfl)
  (fun x v hv=>by simp [opC] at hv;rcases hv with rfl|rfl|rfl <;> rfl) ltKey yXV 95
  (enters_of func95 zK rfl)
  (yVv (a:=168) (b:=169) (f:=176) (k:=9) (gS:=false) zK zK zK zK
   (fun args W=>run_callFunc_extern func176 zK zK zK (e:=Extern.ReflectliteSwapper.swap false) zK args W))
  bs T (yXW bs) l hl v
 refine ⟨fun R w s=>(h.go R w s).mono fun e w' ⟨x,he,st⟩=>⟨x,he,?_⟩⟩
 have hp:=x.2.1.length_eq
 unfold lsP
 rw [hp]
 exact st
section
variable {W:World}
theorem yHS (A:SP) (a:Option Addr) (c:Nat) (ops:List BOp) (hL:Lv W opC 3 A a ops) (hl:ops.length*40≤140737488355328):Ct prog W 44 [.slice a ops.length c] [A] (fun x:Option Addr × Nat=>.slice x.1 (yA1 ops).length x.2) (fun x=>[A,lsP opC 60 3 (.slice x.1 (yA1 ops).length x.2) (yA1 ops)]):=by
 refine Ct.enter func44 rfl ntmps44 zW (fun R=>?_)
 repeat' (first|refine yUx ?_;refine yQa strV opV rfl (fun mb=>?_)|refine xst ?_|refine xsa ?_;intro _|refine xsb ?_ ?_<;>intro _<;>try omega|refine xsc ?_|fail)
 refine yAz (fun i:{i:Nat × BMap//i.1≤ops.length∧MapOk (ops.take i.1) i.2}=>[(3,.map (some mb)),(10,.slice a ops.length c),(11,.int .i64 (ops.length:Nat)),(12,.int .i64 (i.1.1:Nat))])
  (fun i=>[A,yR8 strV opV mb i.1.2]++R) (fun i=>ops.length-i.1.1) ⟨(0,[]),zLA _,MapOk.nil⟩ xB (xN) (fun ⟨(i,m),hi,hm⟩=>?_)
 dsimp only at hi hm ⊢
 by_cases hlt:i<ops.length
 ·have ql:decide ((i:Int)<(ops.length:Nat))=true:=zY zO
  obtain ⟨o,ho⟩:∃ s,ops[i]? = some s:=⟨_,zLb hlt⟩
  refine KJ.lvSome hL xS zO (fun b of hab=>?_)
  subst hab
  have hoff:of+Int.toNat (i:Int)*3=of+i*3:=zW
  have hm2:MapOk (ops.take (i+1)) (yL0 m o.key o.nrm):=by
   rw [List.take_add_one,ho];exact hm.put o
  obtain ⟨del,key,val⟩:=o
  cases del with
  |true=>
   repeat' (first|refine yAs ?_;refine yAq rfl (fun g5=>?_)|refine yH7 ?_;refine yIc (v:=(⟨true,key,[]⟩:BOp)) ySS rfl rfl rfl xS ?_|refine yAj ?_;refine yAa (yBX yBy hL rfl rfl xS hoff ho) ?_|refine yAa (yAd (r:=((i+1:Nat):Int)) rfl rfl zO zO) ?_|refine yAa (yAc rfl rfl ql) ?_|refine xst ?_|refine xsa ?_;intro _|refine xsb ?_ ?_<;>intro _<;>try omega|refine xsc ?_|fail)
   all_goals refine yAp ⟨(i+1,yL0 m key ⟨true,key,[]⟩),hlt,hm2⟩ (by show ops.length-(i+1)<ops.length-i;omega) xB (xN)
  |false=>
   repeat' (first|refine yAs ?_;refine yAq rfl (fun g5=>?_)|refine yH7 ?_;refine yIc (v:=(⟨false,key,val⟩:BOp)) ySS rfl rfl rfl xS ?_|refine yAj ?_;refine yAa (yBX yBy hL rfl rfl xS hoff ho) ?_|refine yAa (yAd (r:=((i+1:Nat):Int)) rfl rfl zO zO) ?_|refine yAa (yAc rfl rfl ql) ?_|refine xst ?_|refine xsa ?_;intro _|refine xsb ?_ ?_<;>intro _<;>try omega|refine xsc ?_|fail)
   all_goals refine yAp ⟨(i+1,yL0 m key ⟨false,key,val⟩),hlt,hm2⟩ (by show ops.length-(i+1)<ops.length-i;omega) xB (xN)
 have ql:decide ((i:Int)<(ops.length:Nat))=false:=zZ zO
 rw [zLi zO] at hm
 have htl:=hm.len
 repeat' (first|refine yAs ?_;refine yAq rfl (fun gl=>?_)|refine yU5 ?_;refine yNX rfl xS rfl (fun it=>?_)|refine yAa (yAc rfl rfl ql) ?_|refine xst ?_|refine xsa ?_;intro _|refine xsb ?_ ?_<;>intro _<;>try omega|refine xsc ?_|fail)
 refine KJ.nilrow 60 3 ?_
 refine yAz (fun _:{s:List BOp × BMap × Option (List UInt8 × BOp) × Option Addr × Nat//(s.1++s.2.1.map (·.2)).Perm (m.map (·.2))∧(s.2.1.map (·.1)).Nodup}=>[(6,zPp gl),(25,zPp it)])
  (fun i=>[yHC strV opV mb it m i.1.2.1 i.1.2.2.1,yAi gl [.slice i.1.2.2.2.1 i.1.1.length i.1.2.2.2.2] 22,lsP opC 60 3 (.slice i.1.2.2.2.1 i.1.1.length i.1.2.2.2.2) i.1.1,A]++R)
  (fun i=>i.1.2.1.length) ⟨([],m,none,none,0),by simp,hm.1⟩ xB (xN) (fun ⟨(l,left,cur,a2,c2),hp,hn⟩=>?_)
 dsimp only at hp hn ⊢
 have hlen:=hp.length_eq
 simp only [zLa,zLD] at hlen
 have hso:=yXX (W:=W) gl 22 l zO (.slice a2 l.length c2)
 have hlp:∀ p,p ∈ left→(l.length+1)*40≤140737488355328∧l.length+1≤9223372036854775807:=fun p h=>by
  have:=List.length_pos_of_mem h
  omega
 repeat' (first|refine yAb ?_;refine xca hso fun x=>?_|refine yAH ?_;refine yBV (a:=p.2) yBy rfl rfl rfl xS xS (hlp p hpm).1 (hlp p hpm).2 rfl (fun g' c'=>?_)|refine yAF ?_;refine yAI rfl xF (by rfl) zO rfl (fun gb=>?_)|refine yXz ?_;refine yQj (ty:=0) ySS rfl xS rfl rfl (fun hz=>?_) (fun p hpm=>?_)|refine yCQ ?_;refine yAa (yME (us:=[]) (vs:=[zPp gl]) xE xE rfl) ?_|refine yU6 ?_;refine yAa (yU3 rfl xS) ?_|refine xst ?_|refine xsa ?_;intro _|refine xsb ?_ ?_<;>intro _<;>try omega|refine xsc ?_|fail)
 ·subst hz
  obtain ⟨l',hp',hs'⟩:=x
  dsimp only
  rw [List.map_nil,zLs] at hp
  obtain rfl:l'=yA1 ops:=hm.norm (hp'.trans hp) hs'
  rw [← hp'.length_eq]
  (exact xdn (a2,c2))
 ·refine yAp ⟨(l++[p.2],left.filter (fun q=>decide (q.1≠p.1)),some p,some ⟨g',0,none⟩,c'),?_,?_⟩ ?_ xB (xN)
  ·have:=(yHJ hn hpm).map (·.2)
   rw [zLd]
   exact (List.Perm.append_left l this).trans hp
  ·exact (List.filter_sublist.map _).nodup hn
  ·have:=(yHJ hn hpm).length_eq
   show (left.filter (fun q=>decide (q.1≠p.1))).length<left.length
   simp only [zLj] at this
   omega
end
end
end Go.Proofs.YtlnbkbfblhofbaaGreatDoor
