/-
  BaW4, SrtX, SortL, BaN1, StW8, StP3, StP4.
-/
import Derived.Shelf.SlSortFuncK.WholeK
import Derived.Shelf.GgSortFunc.Tiny
import Derived.Shelf.GgSortFunc.Lays
import Derived.Deep.QuietTactic
import Derived.Test.YtoipmnikdiogcaaGreatDoorYEE
set_option maxRecDepth 100000
set_option maxHeartbeats 64000000
namespace Go.Proofs.YtoipmnikdiogcaaGreatDoor
open Go Go.RowKit
open Go.Proofs.Tryz
abbrev yJl:Pl:=(po [0,1,2,3,4,5,6,7,8,9,10,11] .nil)
abbrev yD1:Pl:=(po [0,1,2] .nil)
abbrev zTEL0:List (Nat×Pl):=[(4,yJl),(5,yD1),(16,yD1)]
abbrev xBN:Pl:=(po [0,1,2,3,4,5,6,7,8,9,10,11,12,13,14,15,16] .nil)
section
variable {W:World} {F:Nat→Addr}
theorem yGO (A:SP) (a:Option Addr) (c:Nat) (ops:List BOp) (hL:Lv W opC 3 A a ops) (ai:(yBx ops).length+64≤140737488355328) (jo:ops.length≤140737488355328) (e4:(yEu ops).2=4→W.cell? ⟨12,0,none⟩=some (yAy F 4)) (e7:(yEu ops).2=7→W.cell? ⟨14,0,none⟩=some (yAy F 7)) :CtU prog W 59 [.slice a ops.length c] [A] (.tuple #[strV (yEu ops).1,yAy F (yEu ops).2]) [A]:=by
 have cn:=yKt (W:=W);have cu:∀ p,CtU prog W 102 [zPp p,.int .u64 (ops.length:Nat)] [WrP p []] (.tuple #[]) [WrP p (yE4 ops 0)]:=fun p=>by have:=yD8 (W:=W) (p:=p) (l:=[]) ops.length zO zW;rw [yLN];exact this
 have e1:IntKind.u64.wrap ((ops.length:Nat):Int)=((ops.length:Nat):Int):=yAx _ zO;refine zE func59 ntmps59 fun R=>?_;repeat' (first|refine xst ?_|refine xsf ?_ ?_|refine xdt zTEL0 ?_|apply zN|intro _)
 refine yAC (fun i:{i:Nat//(i=0∨i<ops.length)∧AdjTo ops (i+1)}=>[(0,.slice a ops.length c),(4,zi ((i.1+1:Nat):Int))])
  (fun i=>[A]++R) (fun i=>ops.length-i.1) ⟨0,.inl rfl,AdjTo.one ops⟩ xB (xN) (fun ⟨i,hi,gW⟩=>?_)
 dsimp only;by_cases hlt:i+1<ops.length
 ·have ql:decide (((i+1:Nat):Int)<(ops.length:Nat))=true:=zY zO;obtain ⟨x,hx⟩:∃ s,ops[i]? = some s:=⟨_,zLb zO⟩;obtain ⟨y,hy⟩:∃ s,ops[i+1]? = some s:=⟨_,zLb hlt⟩;refine KJ.lvSome hL xS zO (fun b of aJ=>?_);subst aJ;have bD:of+Int.toNat ((i+1:Nat):Int)*3+1=of+(i+1)*3+1:=zW;have gU:of+Int.toNat ((i:Nat):Int)*3+1=of+i*3+1:=zW;have kx:(opC x)[1]? = some (strV x.key):=rfl;have ky:(opC y)[1]? = some (strV y.key):=rfl;have bI:=yHp y.key x.key;cases hl:Op.bytesLess x.key y.key with
  |true=>
   rw [hl,Bool.not_true] at bI;repeat' (first|(refine yAi ?_;first|refine yAa (yA0 yAY hL rfl rfl xS gU hx kx) ?_|refine yAa (yA0 yAY hL rfl rfl xS bD hy ky) ?_)|refine zad (i+1+1) ?_|refine yCj ?_;refine yAa (yBl (r:=((i:Nat):Int)) rfl rfl zO zO) ?_|refine xqa ?_|refine xsf ?_ ?_|refine xdt zTEL0 ?_|apply zN|intro _)
   all_goals refine yAs ⟨i+1,.inr hlt,gW.next hx hy hl⟩ (by show ops.length-(i+1)<ops.length-i;omega) xB (xN)
  |false=>
   rw [hl,Bool.not_false] at bI;have he:=yJj (yOc hx hy hl);have e4':=e4 (by rw [he]);repeat' (first|(refine yAi ?_;first|refine yAa (yA0 yAY hL rfl rfl xS gU hx kx) ?_|refine yAa (yA0 yAY hL rfl rfl xS bD hy ky) ?_)|refine yCj ?_;refine yAa (yBl (r:=((i:Nat):Int)) rfl rfl zO zO) ?_|refine xqa ?_|refine xsf ?_ ?_|refine xdt zTEL0 ?_|apply zN|intro _)
   all_goals exact xdn () (hc:=by rw [he];rfl)
 have ql:decide (((i+1:Nat):Int)<(ops.length:Nat))=false:=zZ zO;have hr:yEK ops=true:=AdjTo.rises (ops:=ops) fun j x y hj hx hy=>gW j x y zO hx hy;repeat' (first|refine xca cn fun p=>?_|refine xca (cu p) fun _=>?_|refine xqa ?_|refine xsf ?_ ?_|refine xdt zTEL0 ?_|apply zN|intro _)
 refine yAC (fun i:{i:Nat//i≤ops.length∧∀ j o,ops[j]? = some o→j<i→yHo o=true}=>[(5,zPp p),(33,.slice a ops.length c),(34,zi (ops.length:Nat)),(35,zi (i.1:Nat))])
  (fun i=>[WrP p (yE4 ops i.1),A]++R) (fun i=>ops.length-i.1) ⟨0,zLA _,fun _ _ _ h=>absurd h zO⟩ xB (xN) (fun ⟨i,hi,hf⟩=>?_)
 dsimp only;by_cases hlt:i<ops.length
 ·have ql:decide ((i:Int)<(ops.length:Nat))=true:=zY zO;obtain ⟨o,ho⟩:∃ s,ops[i]? = some s:=⟨_,zLb hlt⟩;refine KJ.lvSome hL xS zO (fun b of aJ=>?_);subst aJ;have ae:of+Int.toNat (i:Int)*3=of+i*3:=zW;have cY:=yOe ho;have ax:=yIP ho;have ii:yHo o=true→∀ j o',ops[j]? = some o'→j<i+1→yHo o'=true:=fun dR j o' h1 h2=>by
   by_cases e:j=i
   ·subst e;rw [ho] at h1;cases h1;exact dR
   ·exact hf j o' h1 zO
  obtain ⟨X,hX⟩:∃ X,X=yE4 ops i:=⟨_,rfl⟩;rw [← hX] at cY ax ⊢;obtain ⟨del,key,val⟩:=o;have tk:=yJk key;have tv:=yJk val;cases del with
  |false=>
   rw [yH4] at cY ax;simp only [zLj,zLa] at cY;have c1:=yQY (W:=W) (p:=p) (l:=X) 0 zO;have c2:=yH5 (W:=W) (p:=p) (l:=X++[0]) key (by simp only [zLa,List.length_singleton];omega);have c3:CtU prog W 118 [zPp p,strV val] [WrP p (X++[0]++tx key)] (.tuple #[]) [WrP p (yE4 ops (i+1))]:=by have:=yH5 (W:=W) (p:=p) (l:=X++[0]++tx key) val (by simp only [zLa,List.length_singleton];omega);rw [ax];simpa only [zLd,List.singleton_append,List.cons_append,List.nil_append] using this
   repeat' (first|refine zal fun g5=>?_|refine yAi ?_;refine yAa (yBa yAY hL rfl rfl xS ae ho) ?_|refine zad (i+1) ?_|refine xqa ?_|refine xsf ?_ ?_|refine xdt zTEL0 ?_|apply zN|intro _)
   all_goals refine yAs ⟨i+1,hlt,ii rfl⟩ (by show ops.length-(i+1)<ops.length-i;omega) xB (xN)
  |true=>
   by_cases hv:val=[]
   ·subst hv;rw [yH3] at cY ax;simp only [zLj] at cY;have c1:=yQY (W:=W) (p:=p) (l:=X) 1 zO;have c2:CtU prog W 118 [zPp p,strV key] [WrP p (X++[1])] (.tuple #[]) [WrP p (yE4 ops (i+1))]:=by have:=yH5 (W:=W) (p:=p) (l:=X++[1]) key (by simp only [zLa,List.length_singleton];omega);rw [ax];simpa only [zLd,List.singleton_append,List.cons_append,List.nil_append] using this
    repeat' (first|refine zal fun g5=>?_|refine yAi ?_;refine yAa (yBa yAY hL rfl rfl xS ae ho) ?_|refine zad (i+1) ?_|refine yAo ?_;refine yAa (yDO rfl rfl rfl) ?_|refine xqa ?_|refine xsf ?_ ?_|refine xdt zTEL0 ?_|apply zN|intro _)
    all_goals refine yAs ⟨i+1,hlt,ii rfl⟩ (by show ops.length-(i+1)<ops.length-i;omega) xB (xN)
   ·have he:=yKu hr ho (by unfold yHo;simp [hv]);have e7':=e7 (by rw [he]);repeat' (first|refine zal fun g5=>?_|refine yAi ?_;refine yAa (yBa yAY hL rfl rfl xS ae ho) ?_|refine xqa ?_|refine xsf ?_ ?_|refine xdt zTEL0 ?_|apply zN|intro _)
    all_goals exact xdn () (hc:=by rw [he];rfl)
 have ql:decide ((i:Int)<(ops.length:Nat))=false:=zZ zO;obtain rfl:i=ops.length:=zO;have he:=yOd hr (fun j o h1 h2=>hf j o h1 h2);rw [yKv];have hp:=yUX ops ops.length;rw [yKv] at hp;have co:=yKw (W:=W) (p:=p) (l:=yBx ops) hp;repeat' (first|refine xqa ?_|refine xsf ?_ ?_|refine xdt zTEL0 ?_|apply zN|intro _)
 all_goals exact xdn () (hc:=by rw [he];rfl)
end
section
open Go Go.RowKit Go.Shelf Go.Lib Go.Sort
section
variable {α:Type} {enc:α→List Value} {k:Nat}
theorem yLU [Inhabited α] (hk:∀ x,(enc x).length=k) (d:Array α):(flatK enc k d).toList=d.toList.flatMap enc:=by
 apply List.ext_getElem?;intro t;by_cases ht:t<d.size*k
 ·have k0:0<k:=by
   rcases Nat.eq_zero_or_pos k with h|h;· subst h;simp at ht
   ·exact h
  have hi:t / k<d.size:=Nat.div_lt_of_lt_mul (by rw [Nat.mul_comm];exact ht);have hc:t % k<k:=Nat.mod_lt _ k0;have e2:=yH1 hk d.toList (t / k) (t % k) hc;rw [Nat.div_add_mod'] at e2;rw [e2];have e1:=get_flatK enc k d t ht;have hs:t<(flatK enc k d).toList.length:=by simpa using ht
  have h3:(flatK enc k d).toList[t]? = some (flatK enc k d)[t]!:=by rw [zLb hs,getElem!_pos _ t (by simpa using ht)];simp
  rw [h3,e1];have h4:d.toList[t / k]? = some d[t / k]!:=by rw [zLb (by simpa using hi),getElem!_pos d _ hi];simp
  rw [h4];have h5:t % k<(enc d[t / k]!).length:=by rw [hk];exact hc
  simp only [Option.bind_some];rw [zLb h5,getElem!_pos (enc d[t / k]!) (t % k) h5]
 ·rw [List.getElem?_eq_none (by simpa using ht),List.getElem?_eq_none (by rw [yEJ hk];simpa using ht)]
end
section
variable {P:Program} {W:World} {ρ:Ren} {α:Type} [Inhabited α]
theorem St.sorted {w:World} {H R:List SP} {g0 n cap k e m:Nat} {xs:List Value} {enc:α→List Value} (hk:∀ x,(enc x).length=k) (s:St W H w) (ap:Sel (yA4 (.slice (zq g0) n cap) e k n xs) H R) (d':Array α) (hd:d'.size=n) (os:Array Obj) :St W (yA4 (.slice (zq g0) n cap) e k n (d'.toList.flatMap enc)::R) (Go.Sort.grow (putRowK enc k (Sort.ahead w m) g0 0 d') os):=by
 obtain ⟨df,hr⟩:=s.row ap;rcases hr with ⟨hv,_⟩|⟨g,cp,aw,hv,hbg,hg,hnc,jP,dx,hx⟩
 ·cases hv
 cases hv;have hgs:g0<w.heap.size:=(zLh.1 hg).1;have fp:(flatK enc k d').size=n*k:=by rw [size_flatK,hd]
 have hh:(Go.Sort.grow (putRowK enc k (Sort.ahead w m) g0 0 d') os).heap[g0]? = some (.cells (putCells id 0 (flatK enc k d') aw) e (0,0)):=by rw [heap_grow_old _ _ (by unfold putRowK;rw [size_putRow];exact hgs)];show (mapBlock (Sort.ahead w m) g0 (putCells id 0 (flatK enc k d'))).heap[g0]? = _;simp only [mapBlock,heap_ahead,Array.getElem?_modify,hg];rfl
 refine s.rowStep ap ⟨by rw [yEJ hk];simp [hd],.inr ⟨g0,cap,_,rfl,hbg,hh,hnc,jP,by simpa [putCells] using dx,?_⟩⟩ ⟨rfl,rfl,rfl,by rw [size_grow];unfold putRowK;rw [size_putRow];show w.heap.size≤w.heap.size+os.size;omega,fun j hj ao=>?_⟩ (fun g' hg'=>.inl hg')
 ·rw [← yLU hk d'];have hnk:n*k≤aw.size:=by rw [dx];exact zLt k hnc
  apply List.ext_getElem?;intro t;by_cases ht:t<n*k
  ·rw [List.getElem?_take_of_lt ht];have h1:(putCells id 0 (flatK enc k d') aw).toList[t]? = some ((flatK enc k d')[t]!):=by simp only [putCells,Array.getElem?_toList,Array.getElem?_mapIdx];rw [Array.getElem?_eq_getElem zO];simp [fp,ht]
   rw [h1,zLb (by simpa [fp] using ht),getElem!_pos _ t zO];simp
  ·rw [List.getElem?_eq_none (by simp;omega),List.getElem?_eq_none (by simp [hd];omega)]
 ·rw [heap_grow_old _ _ (by unfold putRowK;rw [size_putRow];exact hj)];show (mapBlock (Sort.ahead w m) g0 _).heap[j]? = _;have:g0≠j:=fun e=>ao (by simp [Value.ownBlock,e]);simp [mapBlock,Array.getElem?_modify,this]
theorem St.grown {w:World} {H:List SP} (s:St W H w) (os:Array Obj):St W H (Go.Sort.grow w os):=by have h:=St.act (A:=[]) (B:=[]) (H:=H) (w':=Go.Sort.grow w os) s rfl rfl rfl (by rw [size_grow];omega) (fun h1 _ _=>⟨fun _=>none,trivial,(fun _ _ q=>by cases q),(fun _ _ q=>by cases q),fun k hk _=>heap_grow_old w os hk⟩);exact h
def yYU (P:Program) (g:FuncId) (bs k:Nat) (enc:α→List Value) (lt:α→α→Bool):Prop:=
 ∀ (w:World) (blk c:Nat) (d:Array α),HoldsK enc k w blk 0 d→w.cell? ⟨bs,0,none⟩=some (.slice (zq blk) d.size c)→d.size<4611686018427387904→∀ i j:Nat,i<d.size→j<d.size→
  Calls P g #[zi i,zi j,zPp bs] w fun e w'=>e=.returned (.bool (lt d[i]! d[j]!))∧∃ q,w'=w.drewN q
theorem yZ7 (L:LaysGg.n6 P ρ) (t e:TypeId) (i ie:TypeInfo) (hi:P.info? t=some i) (hd:i.desc=.slice e) (eQ:P.packed t=false) (hie:P.info? e=some ie) (ke:Nat) (hke:∀ w,(Extern.Rtype.kind e).run P w=.ok ke w) (enc:α→List Value) (k:Nat) (hk:∀ x,(enc x).length=k) (bM:ie.size=k) (hagg:∀ w,(isAgg e).run P w=.ok true w) (h1:∀ x,∀ v ∈ enc x,v.oneCell'=true) (lt:α→α→Bool) (hO:SWO lt) (g:Nat) (eg : ∀ args w, (callFunc g args).run P w = .ok (.enter g args) w) (hf : ∀ n, ∃ f, P.funcs.findIdx? (·.name == "internal/reflectlite" ++ ".Swapper$" ++ toString (swapperK n ie ke)) = some f ∧ (2 ≤ n → ∃ gS, ∀ args W, (callFunc f args).run P W = ((Extern.ReflectliteSwapper.swap gS args).run P W).andThen fun v w' => .ok (.value v) w')) (bs T:Nat) (dg:yYU P g bs k enc lt) (l:List α) (hl:l.length<4611686018427387904) (v:Value) :Ct P W (ρ.f 6) [.iface t v,.func (.func g) #[] #[zPp bs]] [yAj bs [v] T,yA4 v e k l.length (l.flatMap enc)] (fun _:{l':List α//l'.Perm l∧l'.Pairwise fun x y=>lt y x=false}=>.tuple #[]) (fun x=>[yAj bs [v] T,yA4 v e k l.length (x.1.flatMap enc)]):=by
 refine ⟨fun R w s=>?_⟩;obtain ⟨f,iT,dW⟩:=hf l.length;have hs0:=(s.blk (R:=yA4 v e k l.length (l.flatMap enc)::R) .here).2;have cD:w.cell? ⟨bs,0,none⟩=some v:=by rw [hs0.cell];rfl
 have jq:bs<w.heap.size:=World.block_lt_of_cell? w ⟨bs,0,none⟩ cD;have ap:Sel (yA4 v e k l.length (l.flatMap enc)) (yAj bs [v] T::yA4 v e k l.length (l.flatMap enc)::R) (yAj bs [v] T::R):=.there .here;have aC:=s.row ap;by_cases h2:l.length≤1
 ·have fg:∃ p c,v=.slice p l.length c:=by
   rcases aC.2 with ⟨hv,h0⟩|⟨gg,cp,_,hv,_⟩
   ·exact ⟨none,0,by rw [hv,h0]⟩
   ·exact ⟨_,cp,hv⟩
  obtain ⟨p,c,rfl⟩:=fg;refine (Any.sort_Slice_tiny L t e i ie hi hd eQ hie ke hke p l.length c h2 f iT (.func g) #[] #[zPp bs] w).mono ?_
  rintro en w' ⟨rfl,os,rfl⟩
  refine ⟨⟨l,.refl _,?_⟩,rfl,s.grown os⟩
  match l,h2 with
  |[],_=>exact .nil
  |[x],_=>exact List.pairwise_singleton _ _
 ·rcases aC.2 with ⟨_,h0⟩|⟨gg,cp,aw,rfl,hbg,hg,hnc,jP,dx,hx⟩
  ·omega
  obtain ⟨gS,cH⟩:=dW zO;have hgs:gg<w.heap.size:=(zLh.1 hg).1;have ao:bs≠gg:=by
   obtain ⟨g1,g2,dj,hA,hH,l1,l2⟩:=(show St W ([yAj bs [.slice (zq gg) l.length cp] T]++yA4 (.slice (zq gg) l.length cp) e k l.length (l.flatMap enc)::R) w from s).split;intro q;subst q;obtain ⟨ha,_,_,le,_,fU,_⟩:=hA;obtain ⟨hb,_,_,leb,_,⟨_,hdb⟩,_⟩:=hH;rcases hdb with ⟨aR,_⟩|⟨g'',je,cur',aR,hh0,_⟩
   ·cases aR
   ·cases aR;have:=dj bs _ (le _ _ fU);rw [leb _ _ hh0] at this;cases this
  have hH:HoldsK enc k w gg 0 l.toArray:=by
   intro j hj;rw [size_flatK] at hj;have hj:j<l.length*k:=by simpa using hj
   have hjc:j<aw.size:=by rw [dx];exact Nat.lt_of_lt_of_le hj (zLt k hnc)
   rw [zLq];have fp:=yLU hk l.toArray;refine ⟨?_,by simp [World.frozen?,hg]⟩;rw [cell_of_row w gg j _ _ _ hg];have h3:(aw.toList.take (l.length*k))[j]? = aw[j]?:=by rw [List.getElem?_take_of_lt hj];simp
   rw [← h3,hx,← (show l.toArray.toList=l from rfl),← fp,zLb (by simpa using hj),getElem!_pos _ j (by simpa using hj)];simp
  have hls:LessReadsK P g #[zPp bs] enc k lt gg 0 l.toArray.size w:=by
   intro m os dk hs i j hi hj;have e:sortWorldK enc k w gg 0 m dk os=putRowK enc k (Go.Sort.grow (Sort.ahead w m) os) gg 0 dk:=by unfold sortWorldK;rw [putRowK_grow _ _ (Sort.ahead w m) _ gg 0 _ hgs]
   have hHg:HoldsK enc k (Go.Sort.grow (Sort.ahead w m) os) gg 0 l.toArray:=holdsK_grow _ _ _ _ gg 0 _ hgs (holdsK_ahead _ _ _ _ _ _ _ hH);refine dg _ gg cp dk ?_ ?_ (by rw [hs];simpa using hl) i j zO zO
   ·rw [e];exact holdsK_putRowK _ _ _ gg 0 _ dk hHg hs
   ·rw [e,cell?_putRowK_other _ _ _ gg 0 dk _ (by exact ao),cell?_grow _ _ _ (by exact jq)];rw [hs];exact cD
  refine (Any.sort_Slice_cells_sorted L t e i ie hi hd eQ hie ke hke enc k hk bM hagg h1 lt hO g #[zPp bs] eg gg 0 cp l.toArray (by simp;omega) (by simpa using hl) f (by simpa using iT) gS cH w hls hH hgs).mono ?_
  rintro en w' ⟨rfl,d',n,os,hp,hso,rfl⟩
  have bu:d'.size=l.length:=by simpa using hp.1
  have hperm:d'.toList.Perm l:=by have:=hp.2.2;simp only [List.size_toArray] at this;rw [← bu] at this;simp only [Array.extract_size] at this;rw [bu] at this;simpa using this
  refine ⟨⟨d'.toList,hperm,?_⟩,rfl,?_⟩
  ·rw [List.pairwise_iff_getElem];intro a b ha hb aJ;have iL:a<d'.size:=by simpa using ha
   have hb':b<d'.size:=by simpa using hb
   have:=hso a b (zLA _) aJ (by simp;omega);rw [getElem!_pos d' a iL,getElem!_pos d' b hb'] at this;simpa using this
  ·have st:=St.sorted (m:=n) hk s ap d' bu os;exact st.perm (.swap _ _ _)
theorem yOl {n:Nat} (h:2≤n) (ie:TypeInfo) (ke:Nat):swapperK n ie ke=swapperK 2 ie ke:=by
 have c:(n == 0)=false:=by simp;omega
 have d:(n == 1)=false:=by simp;omega
 simp [swapperK,c,d]
theorem yXw {ie : TypeInfo} {ke a b f k : Nat} {gS : Bool} (h1 : P.funcs.findIdx? (·.name == "internal/reflectlite" ++ ".Swapper$" ++ toString 1) = some a) (h2 : P.funcs.findIdx? (·.name == "internal/reflectlite" ++ ".Swapper$" ++ toString 2) = some b) (hk : swapperK 2 ie ke = k) (h3 : P.funcs.findIdx? (·.name == "internal/reflectlite" ++ ".Swapper$" ++ toString k) = some f) (hx : ∀ args W, (callFunc f args).run P W = ((Extern.ReflectliteSwapper.swap gS args).run P W).andThen fun v w' => .ok (.value v) w') :∀ n, ∃ f, P.funcs.findIdx? (·.name == "internal/reflectlite" ++ ".Swapper$" ++ toString (swapperK n ie ke)) = some f ∧ (2 ≤ n → ∃ gS, ∀ args W, (callFunc f args).run P W = ((Extern.ReflectliteSwapper.swap gS args).run P W).andThen fun v w' => .ok (.value v) w') := by
 intro n
 match n with
 |0=>exact ⟨a,h1,fun h=>by omega⟩
 |1=>exact ⟨b,h2,fun h=>by omega⟩
 |n+2=>exact ⟨f,by rw [yOl zO,hk];exact h3,fun _=>⟨gS,hx⟩⟩
end
end
section
open Go Go.RowKit Go.Shelf
def Tryz.slr:Ren:=⟨fun|6=>115|10=>163|11=>164|12=>165|13=>166|14=>167|24=>203|25=>204|26=>205|27=>206|28=>207|29=>208|30=>209|31=>210|32=>211|33=>212|34=>228|35=>229|36=>230|37=>231|38=>232|39=>236|n=>n,fun|20=>20|26=>174|35=>230|0=>0|37=>232|3=>3|41=>24|44=>237|49=>239|51=>138|4=>4|54=>272|53=>271|58=>190|5=>5|9=>9|60=>293|64=>296|66=>301|67=>45|17=>17|32=>227|33=>228|82=>315|12=>12|75=>309|76=>310|77=>311|78=>258|79=>312|80=>313|n=>n,fun n=>n⟩
theorem Tryz.sl6:LaysGg.n6 prog Tryz.slr where
 mixed:=zK
 f6:=func115.trans (congrArg some zK)
 f10:=func163.trans (congrArg some zK)
 f11:=func164.trans (congrArg some zK)
 f12:=func165.trans (congrArg some zK)
 f13:=func166.trans (congrArg some zK)
 f14:=func167.trans (congrArg some zK)
 f24:=func203.trans (congrArg some zK)
 f25:=func204.trans (congrArg some zK)
 f26:=func205.trans (congrArg some zK)
 f27:=func206.trans (congrArg some zK)
 f28:=func207.trans (congrArg some zK)
 f29:=func208.trans (congrArg some zK)
 f30:=func209.trans (congrArg some zK)
 f31:=func210.trans (congrArg some zK)
 f32:=func211.trans (congrArg some zK)
 f33:=func212.trans (congrArg some zK)
 f34:=func228.trans (congrArg some zK)
 f35:=func229.trans (congrArg some zK)
 f36:=func230.trans (congrArg some zK)
 f37:=func231.trans (congrArg some zK)
 f38:=func232.trans (congrArg some zK)
 f39:=func236.trans (congrArg some zK)
 t0:=underlying0
 a0:=isAgg0
 z0:=sizeOf0
 v0:=zeroValue0
 i0:=zK
 t3:=underlying3
 a3:=isAgg3
 z3:=sizeOf3
 v3:=zeroValue3
 i3:=zK
 t4:=underlying4
 a4:=isAgg4
 z4:=sizeOf4
 v4:=zeroValue4
 i4:=zK
 t5:=underlying5
 a5:=isAgg5
 z5:=sizeOf5
 v5:=zeroValue5
 i5:=zK
 t9:=underlying9
 a9:=isAgg9
 z9:=sizeOf9
 v9:=zeroValue9
 i9:=zK
 t12:=underlying12
 a12:=isAgg12
 z12:=sizeOf12
 v12:=zeroValue12
 i12:=zK
 t17:=underlying17
 a17:=isAgg17
 z17:=sizeOf17
 v17:=zeroValue17
 i17:=zK
 t20:=underlying20
 a20:=isAgg20
 z20:=sizeOf20
 v20:=zeroValue20
 i20:=zK
 t26:=underlying174
 a26:=isAgg174
 z26:=sizeOf174
 v26:=zeroValue174
 i26:=zK
 t32:=underlying227
 a32:=isAgg227
 z32:=sizeOf227
 v32:=zeroValue227
 i32:=zK
 t33:=underlying228
 a33:=isAgg228
 z33:=sizeOf228
 v33:=zeroValue228
 i33:=zK
 t35:=underlying230
 a35:=isAgg230
 z35:=sizeOf230
 v35:=zeroValue230
 i35:=zK
 t37:=underlying232
 a37:=isAgg232
 z37:=sizeOf232
 v37:=zeroValue232
 i37:=zK
 t41:=underlying24
 a41:=isAgg24
 z41:=sizeOf24
 v41:=zeroValue24
 i41:=zK
 t44:=underlying237
 a44:=isAgg237
 z44:=sizeOf237
 v44:=zeroValue237
 i44:=zK
 t49:=underlying239
 a49:=isAgg239
 z49:=sizeOf239
 v49:=zeroValue239
 i49:=zK
 t51:=underlying138
 a51:=isAgg138
 z51:=sizeOf138
 v51:=zeroValue138
 i51:=zK
 t53:=underlying271
 a53:=isAgg271
 z53:=sizeOf271
 v53:=zeroValue271
 i53:=zK
 t54:=underlying272
 a54:=isAgg272
 z54:=sizeOf272
 v54:=zeroValue272
 i54:=zK
 t58:=underlying190
 a58:=isAgg190
 z58:=sizeOf190
 v58:=zeroValue190
 i58:=zK
 t60:=underlying293
 a60:=isAgg293
 z60:=sizeOf293
 v60:=zeroValue293
 i60:=zK
 t64:=underlying296
 a64:=isAgg296
 z64:=sizeOf296
 v64:=zeroValue296
 i64:=zK
 t66:=underlying301
 a66:=isAgg301
 z66:=sizeOf301
 v66:=zeroValue301
 i66:=zK
 t67:=underlying45
 a67:=isAgg45
 z67:=sizeOf45
 v67:=zeroValue45
 i67:=zK
 t75:=underlying309
 a75:=isAgg309
 z75:=sizeOf309
 v75:=zeroValue309
 i75:=zK
 t76:=underlying310
 a76:=isAgg310
 z76:=sizeOf310
 v76:=zeroValue310
 i76:=zK
 t77:=underlying311
 a77:=isAgg311
 z77:=sizeOf311
 v77:=zeroValue311
 i77:=zK
 t78:=underlying258
 a78:=isAgg258
 z78:=sizeOf258
 v78:=zeroValue258
 i78:=zK
 t79:=underlying312
 a79:=isAgg312
 z79:=sizeOf312
 v79:=zeroValue312
 i79:=zK
 t80:=underlying313
 a80:=isAgg313
 z80:=sizeOf313
 v80:=zeroValue313
 i80:=zK
 t82:=underlying315
 a82:=isAgg315
 z82:=sizeOf315
 v82:=zeroValue315
 i82:=zK
end
section
open Go Go.RowKit Go.Shelf Go.Lib Go.Sort
def ltKey (a b:BOp):Bool:=Op.bytesLess a.key b.key
theorem MapOk.norm {ops:List BOp} {m:BMap} (h:MapOk ops m) {l:List BOp} (hp:l.Perm (m.map (·.2))) (hs:l.Pairwise fun x y=>ltKey y x=false):l=yAR ops:=by
 have hk:∀ p ∈ m,p.2.key=p.1:=fun p hp=>by have:=ySk h.1 hp;rw [h.2] at this;exact (yEs this).1
 have hm:(m.map (·.2)).map BOp.key=m.map (·.1):=by rw [List.map_map];exact List.map_congr_left hk
 refine yXe (yM1 hs ?_) fun x=>?_
 ·have:=(hp.map BOp.key).nodup_iff;rw [this,hm];exact h.1
 ·rw [hp.mem_iff,← h.2];constructor
  ·intro hx;obtain ⟨p,h1,rfl⟩:=List.mem_map.1 hx;rw [hk p h1];exact ySk h.1 h1
  ·intro hx;exact List.mem_map.2 ⟨_,yQP hx,rfl⟩
theorem yZ8:SWO ltKey where
 irrefl:=fun x=>yDi _
 trans:=fun x y z h1 h2=>yG1 h1 h2
 ntrans:=fun x y z h1 h2=>by
  unfold ltKey at *;by_cases e:x.key=y.key
  ·rw [e];exact h2
  ·by_cases e2:y.key=z.key
   ·rw [← e2];exact h1
   ·exact yGb (yG1 (yKl h2 e2) (yKl h1 e))
noncomputable def xDq:TypeInfo:=(prog.info? 38).get zK
noncomputable def opT:TypeInfo:=(prog.info? 58).get zK
theorem yZ9 (bs:Nat):yYU prog 116 bs 3 opC ltKey:=by
 intro w blk c d hH hs bu i j hi hj;have ci:=(hH.cell (i:=i) (c:=1) hi zO).1;have cj:=(hH.cell (i:=j) (c:=1) hj zO).1;have ei:(opC d[i]!)[1]! = strV d[i]!.key:=rfl;have ej:(opC d[j]!)[1]! = strV d[j]!.key:=rfl;rw [ei,zLq] at ci;rw [ej,zLq] at cj
 go_enter func116,ntmps116
 go_wp2
 go_quiet (fail)
 go_wp2
 go_ret
 exact ⟨by simp [ltKey,hi,hj],nq,rfl⟩
theorem xAa {W:World} (bs T:Nat) (l:List BOp) (hl:l.length<4611686018427387904) (v:Value) :Ct prog W 115 [.iface 38 v,.func (.func 116) #[] #[zPp bs]] [yAj bs [v] T,lsP opC 58 3 v l] (fun _:{l':List BOp//l'.Perm l∧l'.Pairwise fun x y=>ltKey y x=false}=>.tuple #[]) (fun x=>[yAj bs [v] T,lsP opC 58 3 v x.1]):=by
 have h:=yZ7 (W:=W) Tryz.sl6 38 58 xDq opT zK zK zK zK 25 (fun _=>by kernel_rfl) opC 3 (fun _=>rfl) zK (fun _=>by kernel_rfl)
  (fun x v hv=>by simp [opC] at hv;rcases hv with rfl|rfl|rfl <;> rfl) ltKey yZ8 116
  (enters_of func116 zK rfl)
  (yXw (a:=194) (b:=195) (f:=202) (k:=9) (gS:=false) zK zK zK zK
   (fun args W=>run_callFunc_extern func202 zK zK zK (e:=Extern.ReflectliteSwapper.swap false) zK args W))
  bs T (yZ9 bs) l hl v
 refine ⟨fun R w s=>(h.go R w s).mono fun e w' ⟨x,he,st⟩=>⟨x,he,?_⟩⟩;have hp:=x.2.1.length_eq;unfold lsP;rw [hp];exact st
section
variable {W:World}
theorem yGP (A:SP) (a:Option Addr) (c:Nat) (ops:List BOp) (hL:Lv W opC 3 A a ops) (hl:ops.length*40≤140737488355328):Ct prog W 58 [.slice a ops.length c] [A] (fun x:Option Addr × Nat=>.slice x.1 (yAR ops).length x.2) (fun x=>[A,lsP opC 58 3 (.slice x.1 (yAR ops).length x.2) (yAR ops)]):=by
 refine zE func58 ntmps58 fun R=>?_;repeat' (first|refine yWK ?_;refine ySn strV opV rfl (fun mb=>?_)|refine xst ?_|refine xsf ?_ ?_|intro _)
 refine yAC (fun i:{i:Nat × BMap//i.1≤ops.length∧MapOk (ops.take i.1) i.2}=>[(3,.map (some mb)),(10,.slice a ops.length c),(11,zi (ops.length:Nat)),(12,zi (i.1.1:Nat))])
  (fun i=>[A,yUK strV opV mb i.1.2]++R) (fun i=>ops.length-i.1.1) ⟨(0,[]),zLA _,MapOk.nil⟩ xB (xN) (fun ⟨(i,m),hi,hm⟩=>?_)
 dsimp only at hi hm ⊢;by_cases hlt:i<ops.length
 ·have ql:decide ((i:Int)<(ops.length:Nat))=true:=zY zO;obtain ⟨o,ho⟩:∃ s,ops[i]? = some s:=⟨_,zLb hlt⟩;refine KJ.lvSome hL xS zO (fun b of aJ=>?_);subst aJ;have ae:of+Int.toNat (i:Int)*3=of+i*3:=zW;have dy:MapOk (ops.take (i+1)) (ySj m o.key o.nrm):=by rw [List.take_add_one,ho];exact hm.put o
  obtain ⟨del,key,val⟩:=o;cases del with
  |true=>
   repeat' (first|refine zal fun g5=>?_|refine yJa ?_;refine yJg (v:=(⟨true,key,[]⟩:BOp)) yUW rfl rfl rfl xS ?_|refine yAi ?_;refine yAa (yBa yAY hL rfl rfl xS ae ho) ?_|refine zad (i+1) ?_|refine xqa ?_|refine xsf ?_ ?_|intro _)
   all_goals refine yAs ⟨(i+1,ySj m key ⟨true,key,[]⟩),hlt,dy⟩ (by show ops.length-(i+1)<ops.length-i;omega) xB (xN)
  |false=>
   repeat' (first|refine zal fun g5=>?_|refine yJa ?_;refine yJg (v:=(⟨false,key,val⟩:BOp)) yUW rfl rfl rfl xS ?_|refine yAi ?_;refine yAa (yBa yAY hL rfl rfl xS ae ho) ?_|refine zad (i+1) ?_|refine xqa ?_|refine xsf ?_ ?_|intro _)
   all_goals refine yAs ⟨(i+1,ySj m key ⟨false,key,val⟩),hlt,dy⟩ (by show ops.length-(i+1)<ops.length-i;omega) xB (xN)
 have ql:decide ((i:Int)<(ops.length:Nat))=false:=zZ zO;rw [zLi zO] at hm;have jU:=hm.len;repeat' (first|refine zal fun gl=>?_|refine yXi ?_;refine yPJ rfl xS rfl (fun it=>?_)|refine xqa ?_|refine xsf ?_ ?_|intro _)
 refine KJ.nilrow 58 3 ?_
 refine yAC (fun _:{s:List BOp × BMap × Option (zB × BOp) × Option Addr × Nat//(s.1++s.2.1.map (·.2)).Perm (m.map (·.2))∧(s.2.1.map (·.1)).Nodup}=>[(6,zPp gl),(25,zPp it)])
  (fun i=>[yIJ strV opV mb it m i.1.2.1 i.1.2.2.1,yAj gl [.slice i.1.2.2.2.1 i.1.1.length i.1.2.2.2.2] 38,lsP opC 58 3 (.slice i.1.2.2.2.1 i.1.1.length i.1.2.2.2.2) i.1.1,A]++R)
  (fun i=>i.1.2.1.length) ⟨([],m,none,none,0),by simp,hm.1⟩ xB (xN) (fun ⟨(l,left,aw,a2,c2),hp,hn⟩=>?_)
 dsimp only at hp hn ⊢;have ai:=hp.length_eq;simp only [zLa,zLD] at ai;have hso:=xAa (W:=W) gl 38 l zO (.slice a2 l.length c2);have hlp:∀ p,p ∈ left→(l.length+1)*40≤140737488355328∧l.length+1≤9223372036854775807:=fun p h=>by have:=List.length_pos_of_mem h;omega
 repeat' (first|refine xca hso fun x=>?_|refine yAQ ?_;refine yBm (a:=p.2) yAY rfl rfl rfl xS xS (hlp p jF).1 (hlp p jF).2 rfl (fun g' c'=>?_)|refine yAD ?_;refine yAK rfl xF (by rfl) zO rfl (fun gb=>?_)|refine yZS ?_;refine ySp (ty:=0) yUW rfl xS rfl rfl (fun hz=>?_) (fun p jF=>?_)|refine yCL ?_;refine yAa (yN8 (us:=[]) (vs:=[zPp gl]) xE xE rfl) ?_|refine yXj ?_;refine yAa (yXh rfl xS) ?_|refine xst ?_|refine xsf ?_ ?_|intro _)
 ·subst hz;obtain ⟨l',jh,gG⟩:=x;dsimp only;rw [List.map_nil,zLs] at hp;obtain rfl:l'=yAR ops:=hm.norm (jh.trans hp) gG;rw [← jh.length_eq]
  (exact xdn (a2,c2))
 ·refine yAs ⟨(l++[p.2],left.filter (fun q=>decide (q.1≠p.1)),some p,some ⟨g',0,none⟩,c'),?_,?_⟩ ?_ xB (xN)
  ·have:=(yIN hn jF).map (·.2);rw [zLd];exact (List.Perm.append_left l this).trans hp
  ·exact (List.filter_sublist.map _).nodup hn
  ·have:=(yIN hn jF).length_eq;show (left.filter (fun q=>decide (q.1≠p.1))).length<left.length;simp only [zLj] at this;omega
end
end
abbrev yPX (g d:Nat) (n v used:Nat) (life:Int):SP:=yAj g [zPp d,zi (yAN n:Nat),zi (yA7 n:Nat),zi (v:Nat),zi (used:Nat),zi life,.bool false] 180
section
variable {W:World} {F:Nat→Addr} {N:List Nd} {a:Option Addr} {r:Rows} {q s d n g:Nat} {b:Int} {D:Dsk}
instance xCx:FnIs prog 57:=⟨zK⟩
instance xAb:FnIs prog 43:=⟨zK⟩
instance xBO:FnIs prog 39:=⟨zK⟩
instance xC6:FnIs prog 21:=⟨zK⟩
instance xCy:FnIs prog 82:=⟨zK⟩
instance xA2:FnIs prog 20:=⟨zK⟩
theorem yKK (v:Int) (lg:Option Addr) (life:Int) (h:yBi D life false=false):CtU prog W 57 [zPp s] [stP s d q n v lg life false,DiskP d D] (.bool false) [stP s d q n v lg life false,DiskP d D]:=by
 have ho:D.off=false:=by unfold yBi at h;cases hh:D.off <;> simp_all
 have hl:D.life=life:=by unfold yBi at h;rw [ho] at h;simpa using h
 have c1:CtU prog W 46 [zPp d] [DiskP d D] (.bool false) [DiskP d D]:=by rw [← ho];exact yDy
 have c2:CtU prog W 88 [zPp d] [DiskP d D] (zi D.life) [DiskP d D]:=yJ4;refine zE func57 ntmps57 fun R=>?_;repeat' (first|(refine yBS ?_;first|(refine yBn (X:=Unit) xE c1 xP rfl ?_)|(refine yCl (X:=Unit) rfl rfl xE c1 xP rfl ?_)|(refine yBn (X:=Unit) xE c2 xP rfl ?_)|(refine yCl (X:=Unit) rfl rfl xE c2 xP rfl ?_))|refine xqa ?_|refine xsf ?_ ?_|refine xdr 1 xBN ?_|exact xdn ()|apply zN|intro _)
theorem yEv (v:Int) (lg:Option Addr) (life:Int) (dead:Bool) (h2:n≤65536):CtU prog W 43 [zPp s] [stP s d q n v lg life dead] (zi (yA2 (yA7 n:Nat))) [stP s d q n v lg life dead]:=by have c1:=ySd (W:=W) (yA7 n:Nat) (by unfold yA7;omega);refine zE func43 ntmps43 fun R=>?_;repeat' (first|refine xst ?_|refine xsf ?_ ?_|exact xdn ()|intro _)
theorem yU8 (v:Int) (lg:Option Addr) (life:Int) (dead:Bool) (hT:TbOk N a r) (key:zB):CtU prog W 21 [zPp s,strV key] [stP s d q n v lg life dead,tbP q a b,arP N] (.tuple #[strV ((lk r key).getD []),.bool (lk r key).isSome]) [stP s d q n v lg life dead,tbP q a b,arP N]:=by have cg:=yZ2 (W:=W) (p:=q) (b:=b) hT key;refine zE func21 ntmps21 fun R=>?_;repeat' (first|refine xst ?_|refine xsf ?_ ?_|exact xdn ()|intro _)
theorem yU9:Ct prog W 82 [zPp q] [tbP q a b] (fun x:Nat=>(zPp x)) (fun x=>[tbP q a b,tbP x a b]):=by
 refine zE func82 ntmps82 fun R=>?_;repeat' (first|refine zal fun g=>?_|refine xst ?_|refine xsf ?_ ?_|intro _)
 all_goals (exact xdn g)
theorem yGn (v:Int) (lg:Option Addr) (life:Int) (dead:Bool) (hT:TbOk N a r) (A:SP) (oa:Option Addr) (oc:Nat) (ops:List BOp) (hL:Lv W opC 3 A oa ops) (hl:r.length+ops.length≤144115188075855872) (hs:(yAk (yAP r ops)).length≤4611686018427387904) :Ct prog W 39 [zPp s,.slice oa ops.length oc] [A,stP s d q n v lg life dead,tbP q a b,arP N] (fun _:{M:List Nd//∀ y ∈ N,y ∈ M}=>.int .i64 ((yAk (yAP r ops)).length:Nat)) (fun M=>[A,stP s d q n v lg life dead,tbP q a b,arP M.1]):=by
 have cc:=yU9 (W:=W) (q:=q) (a:=a) (b:=b);have ca:=fun x=>yC4 (W:=W) (p:=x) (tb:=b) hT A oa oc ops hL hl;have cz:=fun (x:Nat) (M:List Nd) (a':Option Addr) (b':Int) (h:TbOk M a' (yAP r ops))=>yEM (W:=W) (p:=x) (b:=b') h hs;refine zE func39 ntmps39 fun R=>?_;repeat' (first|refine xca (cz _ _ _ _ hT') fun _=>?_|refine xca (ca _) fun y=>?_;obtain ⟨⟨M,a',b'⟩,gM,hT'⟩:=y;dsimp only at gM hT' ⊢|refine xca cc fun x=>?_|refine xst ?_|refine xsf ?_ ?_|intro _)
 all_goals (exact xdn ⟨M,gM⟩)
theorem ySw (ay:ErrsOn L8 W F) (fX:W.cell? ⟨4,0,none⟩=some (yAy F 17)) (hN:NibAt W) (h1:64≤n) (h2:n≤65536) (v used:Nat) (hv:1≤v∧v≤1099511627776) (hD:Rest D) (hn:D.n=n) (hT:TbOk N a r) (A:SP) (oa:Option Addr) (oc:Nat) (ops:List BOp) (hL:Lv W opC 3 A oa ops) (ho:ops.length*40≤140737488355328) (ao:yAR ops≠[]) (hl:r.length+ops.length≤144115188075855872) (bq:zB) (jl:yEu (yAR ops)=(bq,0)) (hrec:(yBx (yAR ops)).length+64≤140737488355328) (bu:bq.length≤1048576) (hlg:(bq.length:Int)≤yA2 (yA7 n:Nat)) (ak:used+(yBw bq).length≤yA7 n) (ah:(yAk (yAP r (yAR ops))).length≤234*yAA n) :Ct prog W 20 [zPp s,.slice oa ops.length oc] [A,stP s d q n (v:Nat) (zq g) D.life false,DiskP d D,tbP q a b,arP N,yPX g d n v used D.life] (fun _:TbQ N (yAP r (yAR ops))=>.nilIface) (fun x=>[A,stP s d q n (v:Nat) (zq g) D.life false,DiskP d (yBU (yAN n:Nat) v used (yBw bq) 0 D).2.flushD,tbP q x.1.2.1 x.1.2.2,arP x.1.1,yPX g d n v (used+(yBw bq).length) D.life]):=by
 obtain ⟨f1,f2,f3,f4⟩:=yBf h1 v;have hA:=yBr h2;have bz:yBi D D.life false=false:=by unfold yBi;rw [hD.calm.1];simp
 obtain ⟨p1,p2,p3,p4,p5,p6,p7,p8,p9,-⟩:=yPU hD (at_:=yAN n) (v:=v) (used:=used) (yIH bq) zO;have bk:=yB2 bq;have j0:=yKK (W:=W) (s:=s) (d:=d) (q:=q) (n:=n) (v:Nat) (zq g) D.life bz;have cq:=yGP (W:=W) A oa oc ops hL ho;have dJ:(yAR ops).length≤ops.length:=yKF ops;obtain ⟨os,cQ⟩:∃ os,os=yAR ops:=⟨_,rfl⟩;rw [← cQ] at cq dJ ao jl hrec ah ⊢;have aA:∀ xa xc,Lv W opC 3 (lsP opC 58 3 (.slice xa os.length xc) os) xa os:=fun xa xc=>Lv.own yAY rfl;have bV:=fun xa xc=>yGO (W:=W) (F:=F) _ xa xc os (aA xa xc) hrec zO (fun h=>by rw [jl] at h;cases h) (fun h=>by rw [jl] at h;cases h);rw [jl] at bV;have clg:=yEv (W:=W) (s:=s) (d:=d) (q:=q) (n:=n) (v:Nat) (zq g) D.life false h2;have bL:=yCw (W:=W) (s:=s) (d:=d) (q:=q) (n:=n) (v:Nat) (zq g) D.life false h2;have gE:=fun xa xc=>yGn (W:=W) (s:=s) (d:=d) (q:=q) (n:=n) (b:=b) (v:Nat) (zq g) D.life false hT _ xa xc os (aA xa xc) zO zO;have iV:=yMT (W:=W) (p:=d) (g:=g) (yAN n:Nat) (yA7 n:Nat) (v:Nat) (used:Nat) D.life false bq.length zO ⟨zO,zO⟩ ⟨zO,zO⟩;rw [show decide (0≤(bq.length:Int)∧yBQ bq.length≤(yA7 n:Nat)-(used:Nat))=true from zY ⟨zO,zO⟩] at iV;have cap:=yKi (W:=W) (p:=d) (g:=g) (D:=D) ay fX hN (yAN n:Nat) (yA7 n:Nat) D.life v used bq zO bz ⟨zO,zO⟩ zO bu zO ⟨zO,zO⟩ hv (by rw [hD.und];simp);rw [p1] at cap;have db:(used:Int)+yBQ bq.length=((used+(yBw bq).length:Nat):Int):=zO;simp only [if_true,Bool.not_true,db] at cap;have bt:=yPW (W:=W) (p:=d) (g:=g) (D:=(yBU (yAN n:Nat) v used (yBw bq) 0 D).2) ay (yAN n:Nat) (yA7 n:Nat) (v:Nat) ((used+(yBw bq).length:Nat):Int) D.life (by unfold yBi;rw [p2,p3];simp) (by rw [p4];omega);rw [p6] at bt;simp only [if_true] at bt;obtain ⟨D1,aL⟩:∃ D1,D1=(yBU (yAN n:Nat) v used (yBw bq) 0 D).2:=⟨_,rfl⟩;rw [← aL] at cap bt ⊢;obtain ⟨u2,hu2'⟩:∃ u,u=used+(yBw bq).length:=⟨_,rfl⟩;rw [← hu2'] at cap bt ⊢;have bP:=fun (M:List Nd) (hM:∀ y ∈ N,y ∈ M) xa xc=>yC4 (W:=W) (p:=q) (tb:=b) (hT.mono hM) _ xa xc os (aA xa xc) zO;have q0:decide (((os.length:Nat):Int)=0)=false:=zZ (by have:=zLv.2 ao;omega)
 have q1:decide (yA2 (yA7 n:Nat)<(bq.length:Nat))=false:=zZ zO;have q2:decide (((234*yAA n:Nat):Int)<((yAk (yAP r os)).length:Nat))=false:=zZ zO;clear p1 p2 p3 p4 p5 p6 p7 p8 p9 aL hu2' db;refine zE func20 ntmps20 fun R=>?_;repeat' (first|(refine yAb ?_;first|refine xca (bP M hM _ _) fun y=>?_;obtain ⟨⟨M2,a2,b2⟩,gM,be⟩:=y;dsimp only at gM be ⊢|refine xca (gE _ _) fun M=>?_;obtain ⟨M,hM⟩:=M;dsimp only at hM ⊢|refine xca (bV _ _) fun _=>?_|refine xca cq fun x=>?_;obtain ⟨xa,xc⟩:=x)|refine xqa ?_|refine xsf ?_ ?_|intro _)
 all_goals (exact xdn ⟨(M2,a2,b2),fun y hy=>gM y (hM y hy),be⟩)
end
def yHs (r:Rows) (i:Nat):Nat:=(vu r.length).length+((r.take i).flatMap rowB).length
theorem yOm (r:Rows):yHs r 0=(vu r.length).length:=rfl
theorem yNa (r:Rows):yHs r r.length=(yAk r).length:=by unfold yHs yAk;rw [List.take_length,zLa]
theorem yKL {r:Rows} {i:Nat} {p:zB × zB} (h:r[i]? = some p):yHs r (i+1)=yHs r i+(tx p.1).length+(tx p.2).length:=by unfold yHs;rw [List.take_add_one,h,List.flatMap_append,zLa];simp only [Option.toList_some,zLr,List.flatMap_nil,zLs];unfold rowB;rw [zLa];omega
theorem yXx {r:Rows} {i:Nat} {p:zB × zB} (h:r[i]? = some p):∃ t,(yAk r).drop (yHs r i)=tx p.1++(tx p.2++t):=by
 obtain ⟨hi,he⟩:=zLc.1 h;have e:r=r.take i++p::r.drop (i+1):=by rw [← he,← List.drop_eq_getElem_cons hi,zLu]
 have e2:r.flatMap rowB=(r.take i).flatMap rowB++(tx p.1++tx p.2++(r.drop (i+1)).flatMap rowB):=by
  conv=>lhs;rw [e]
  rw [List.flatMap_append,zLr];rfl
 refine ⟨(r.drop (i+1)).flatMap rowB,?_⟩;unfold yAk;rw [e2,← zLd,List.drop_left' (by unfold yHs;rw [zLa]),zLd]
theorem yIb {r:Rows} {i:Nat} {p:zB × zB} (h:r[i]? = some p) (hl:(yAk r).length≤4611686018427387904) :∃ t u,rtx (yAk r).length ((yAk r).drop (yHs r i))=.ok p.1 t∧rtx (yAk r).length ((yAk r).drop (yHs r i+(tx p.1).length))=.ok p.2 u∧yHs r i+(tx p.1).length+(tx p.2).length≤(yAk r).length:=by
 obtain ⟨t,ht⟩:=yXx h;have hd:=congrArg List.length ht;rw [zLf,zLa,zLa] at hd;have h1:=yJk p.1;have h2:=yJk p.2;refine ⟨tx p.2++t,t,?_,?_,zO⟩
 ·rw [ht];exact yQS _ _ _ zO zO
 ·rw [← List.drop_drop,ht,List.drop_left];exact yQS _ _ _ zO zO
theorem yC6 (r:Rows):r.length≤(r.flatMap rowB).length:=by
 induction r with
 |nil=>exact Nat.le_refl _
 |cons p r ih=>
  have h1:=yJk p.1;have e:(rowB p).length=(tx p.1).length+(tx p.2).length:=by unfold rowB;rw [zLa]
  rw [zLr,zLa,zLj,e];omega
theorem yDV (r:Rows) (h:(yAk r).length≤4611686018427387904):ru ((yAk r).drop 0)=.ok r.length (r.flatMap rowB)∧r.length≤(yAk r).length:=by
 have h1:=yC6 r;have h2:(yAk r).length=(vu r.length).length+(r.flatMap rowB).length:=by unfold yAk;rw [zLa]
 exact ⟨by rw [zLo];exact yFz _ zO _,zO⟩
theorem yQ9 {r:Rows} (h:RisR r) (i:Nat):RisR (r.take i):=List.Pairwise.sublist (List.take_sublist _ _) h
theorem yXy {r:Rows} (hr:RisR r) {i:Nat} {p:zB × zB} (h:r[i]? = some p):yHW (r.take i) p.1 p.2=r.take (i+1):=by
 have hT:=yQ9 hr i;have be:=yQ9 hr (i+1);have e:r.take (i+1)=r.take i++[p]:=by rw [List.take_add_one,h];rfl
 refine yGH (yDb hT _ _) be fun k=>?_;rw [yER hT,e,yKk];rw [e] at be;by_cases hk:k=p.1
 ·have h0:lk (r.take i) k=none:=yGI fun q hq=>by rw [hk];exact (List.pairwise_append.1 be).2.2 q hq p zW
  rw [if_pos hk,h0];show some p.2=(if p.1=k then some p.2 else none);rw [if_pos hk.symm]
 ·rw [if_neg hk];have:lk [p] k=none:=by show (if p.1=k then some p.2 else none)=none;rw [if_neg (fun q=>hk q.symm)]
  rw [this,Option.or_none]
theorem yRa {r:Rows} (hr:RisR r) {i:Nat} {p q:zB × zB} (h1:r[i]? = some p) (h2:r[i+1]? = some q):Op.bytesLess p.1 q.1=true:=by obtain ⟨a1,b1⟩:=zLc.1 h1;obtain ⟨a2,b2⟩:=zLc.1 h2;have:=List.pairwise_iff_getElem.1 hr i (i+1) a1 a2 zO;rw [b1,b2] at this;exact this
theorem Good.logE {n v:Nat} {r:Rows} {D:Dsk} (h:Good n r v D) (h1:64≤n) (h2:n≤65536) (hv:1≤v∧v≤1099511627776) (f:Nat):yHb D (yAN n:Nat) (yA7 n:Nat) v (f+1) 0 []=[]:=by
 obtain ⟨f1,f2,f3,f4⟩:=yBf h1 v;have hn:=h.nn;have h0:0<yA7 n:=by unfold yA7 yAA;omega
 have hp:yDT D (yAN n:Nat) (yA7 n:Nat) v 0=none:=by obtain ⟨r1,r2⟩:=ySa h.rest.calm h.rest.und (yAN n+0) zO;have e:((yAN n:Nat):Int)+((0:Nat):Int)=((yAN n+0:Nat):Int):=zO;unfold yDT;rw [if_neg zO,e,if_neg (by rw [r1];simp),r2];exact ySi (yMU hv.2 zO) (h.log 0 h0)
 show (match yFV D (yAN n:Nat) (yA7 n:Nat) v 0 with|none=>[]|some (s,u)=>yHb D (yAN n:Nat) (yA7 n:Nat) v f (0+u.toNat) ([]++[s]))=[];rw [yKj hp]
structure RdyS (n v:Nat) (D:Dsk):Prop where
 rest:Rest D
 nn:D.n=n
 slot:∃ l,Holds D 0 v l
theorem Ready.s {n v:Nat} {D:Dsk} (h:Ready n v D):RdyS n v D:=⟨h.rest,h.nn,h.slot⟩
theorem Good.s {n v:Nat} {r:Rows} {D:Dsk} (h:Good n r v D):RdyS n v D:=h.ready.s
theorem RdyS.fold {n v:Nat} {D:Dsk} (h:RdyS n v D) (r:Rows) (h1:64≤n) (h2:n≤65536) (hv:v+1≤1099511627776) (hr:(yAk r).length≤234*yAA n) :(yBF D (yAG n (v+1)) (yAA n) ((v+1:Nat):Int) (yAk r)).1=0∧yB1 (yDt D n (v+1) r) 0 ((v+1:Nat):Int) (yBJ n (yAk r).length)=0∧RdyS n (v+1) (yFG D n (v+1) r)∧(yFG D n (v+1) r).life=D.life∧(yDt D n (v+1) r).und=[]∧(yDt D n (v+1) r).n=n∧(yFG D n (v+1) r).off=false:=by
 obtain ⟨f1,f2,f3,f4⟩:=yBf h1 (v+1);obtain ⟨l,hl⟩:=h.slot;have hn:=h.nn;obtain ⟨a1,a2,a3,a4,a5,a6⟩:=yKD h.rest (yAG n (v+1)) (yAA n) (v+1) (yAk r) zO zO hr (by unfold yAA;omega);have hA:(yBF D (yAG n (v+1)) (yAA n) ((v+1:Nat):Int) (yAk r)).2=yDt D n (v+1) r:=rfl;rw [hA] at a2 a3 a4 a5 a6;have hl2:Holds (yDt D n (v+1) r) 0 v l:=hl.keep fun k hk=>by refine a6 _ zO (.inl zO)
 have hh:=yDc n (yAk r).length;obtain ⟨b1,b2,b3,b4,b5⟩:=yGE a2 0 (v+1) (yBJ n (yAk r).length) zO zO hv zO;have hS:=Holds.next a2 zO hl2 hv (show (yBJ n (yAk r).length).length≤234 by omega);exact ⟨a1,b1,⟨b2,b3.trans (a3.trans hn),_,hS⟩,(yKE _ _ _ _).trans a4,a2.und,a3.trans hn,b2.calm.1⟩
def yYV (D:Dsk) (n v used:Nat) (rc:zB):Dsk:=(yBU (yAN n:Nat) v used (yBw rc) 0 D).2.flushD
theorem RdyS.log {n v used:Nat} {D:Dsk} (h:RdyS n v D) (h1:64≤n) (rc:zB) (hf:used+(yBw rc).length≤yA7 n):RdyS n v (yYV D n v used rc)∧(yYV D n v used rc).life=D.life:=by obtain ⟨f1,f2,f3,f4⟩:=yBf h1 v;have hn:=h.nn;obtain ⟨l,hl⟩:=h.slot;obtain ⟨p1,p2,p3,p4,p5,p6,p7,p8,p9,p10⟩:=yPU h.rest (at_:=yAN n) (v:=v) (used:=used) (yIH rc) zO;exact ⟨⟨p7,p8.trans hn,l,hl.keep fun k hk=>p10 _ zO (.inl zO)⟩,p9⟩
theorem yGQ {len n:Nat} (hn:1≤n) (cO:n≤65536) (h:(len:Int)≤yA2 (n:Nat)):yBQ len≤(n:Nat):=by
 have e:yA2 (n:Nat)=229+233*((n:Int)-1):=by unfold yA2;rw [if_neg zO,yDa (233*((n:Int)-1)) zO,yDa _ zO]
 rw [e] at h;unfold yBQ;split
 ·omega
 ·split <;> omega
theorem yFH {n:Nat} (hn:1≤n) (cO:n≤65536):yA2 (n:Nat)=229+233*((n:Int)-1):=by unfold yA2;rw [if_neg zO,yDa (233*((n:Int)-1)) zO,yDa _ zO]
def yE6 (n:Nat) (r:Rows) (ops:List BOp):Nat:=if yAR ops=[] then 0 else if yA2 (yA7 n:Nat)<((yBx (yAR ops)).length:Nat) then 18 else if 234*yAA n<(yAk (yAP r (yAR ops))).length then 17 else 0
def ySx (n:Nat) (r:Rows) (ops:List BOp):Rows:=if yE6 n r ops=0 then yAP r (yAR ops) else r
theorem yGo (ops:List BOp):yEu (yAR ops)=(yBx (yAR ops),0):=by unfold yEu;have h1:yEK (yAR ops)=true:=risesB_iff.2 (yEH ops);have h2:(yAR ops).all yHo=true:=List.all_eq_true.2 fun x hx=>formB_iff.2 (yN5 hx);rw [h1,h2,if_neg zW,if_neg zW]
end Go.Proofs.YtoipmnikdiogcaaGreatDoor
