/-
  SrtX.
-/
import Derived.Test.YtnbgcimalpdfoaaGreatDoorVCP
import Derived.Shelf.SlSortFuncK.WholeK
import Derived.Shelf.GgSortFunc.Tiny
set_option maxHeartbeats 64000000
namespace Go.Proofs.YtnbgcimalpdfoaaGreatDoor
open Go Go.RowKit Go.Shelf Go.Lib Go.Sort
section
variable {α:Type} {enc:α→List Value} {k:Nat}
theorem flatK_list [Inhabited α] (hk:∀ x,(enc x).length=k) (d:Array α):(flatK enc k d).toList=d.toList.flatMap enc:=by
 apply List.ext_getElem?
 intro t
 by_cases ht:t<d.size*k
 ·have k0:0<k:=by rcases Nat.eq_zero_or_pos k with h|h;· subst h;simp at ht
                  ·exact h
  have hi:t / k<d.size:=Nat.div_lt_of_lt_mul (by rw [Nat.mul_comm];exact ht)
  have hc:t % k<k:=Nat.mod_lt _ k0
  have e2:=flatE_get hk d.toList (t / k) (t % k) hc
  rw [Nat.div_add_mod'] at e2
  rw [e2]
  have e1:=get_flatK enc k d t ht
  have hs:t<(flatK enc k d).toList.length:=by simpa using ht
  have h3:(flatK enc k d).toList[t]? = some (flatK enc k d)[t]!:=by
   rw [List.getElem?_eq_getElem hs,getElem!_pos _ t (by simpa using ht)];simp
  rw [h3,e1]
  have h4:d.toList[t / k]? = some d[t / k]!:=by
   rw [List.getElem?_eq_getElem (by simpa using hi),getElem!_pos d _ hi];simp
  rw [h4]
  have h5:t % k<(enc d[t / k]!).length:=by rw [hk];exact hc
  simp only [Option.bind_some]
  rw [List.getElem?_eq_getElem h5,getElem!_pos (enc d[t / k]!) (t % k) h5]
 ·rw [List.getElem?_eq_none (by simpa using ht),List.getElem?_eq_none (by rw [flatE_length hk];simpa using ht)]
end
section
variable {P:Program} {W:World} {ρ:Ren} {α:Type} [Inhabited α]
theorem St.sorted {w:World} {H R:List SP} {g0 n cap k e m:Nat} {xs:List Value} {enc:α→List Value} (hk:∀ x,(enc x).length=k) (s:St W H w) (hsel:Sel (rowP (.slice (some ⟨g0,0,none⟩) n cap) e k n xs) H R) (d':Array α) (hd:d'.size=n) (os:Array Obj) :
 St W (rowP (.slice (some ⟨g0,0,none⟩) n cap) e k n (d'.toList.flatMap enc)::R) (Go.Sort.grow (putRowK enc k (Sort.ahead w m) g0 0 d') os):=by
 obtain ⟨hxl,hr⟩:=s.row hsel
 rcases hr with ⟨hv,_⟩|⟨g,cp,cur,hv,hbg,hg,hnc,hcm,hcs,hx⟩
 ·cases hv
 cases hv
 have hgs:g0<w.heap.size:=(Array.getElem?_eq_some_iff.1 hg).1
 have hfl:(flatK enc k d').size=n*k:=by rw [size_flatK,hd]
 have hh:(Go.Sort.grow (putRowK enc k (Sort.ahead w m) g0 0 d') os).heap[g0]? = some (.cells (putCells id 0 (flatK enc k d') cur) e (0,0)):=by
  rw [heap_grow_old _ _ (by unfold putRowK;rw [size_putRow];exact hgs)]
  show (mapBlock (Sort.ahead w m) g0 (putCells id 0 (flatK enc k d'))).heap[g0]? = _
  simp only [mapBlock,heap_ahead,Array.getElem?_modify,hg]
  rfl
 refine s.rowStep hsel ⟨by rw [flatE_length hk];simp [hd],.inr ⟨g0,cap,_,rfl,hbg,hh,hnc,hcm,by simpa [putCells] using hcs,?_⟩⟩ ⟨rfl,rfl,rfl,by rw [size_grow];unfold putRowK;rw [size_putRow];show w.heap.size≤w.heap.size+os.size;omega,fun j hj hne=>?_⟩ (fun g' hg'=>.inl hg')
 ·rw [← flatK_list hk d']
  have hnk:n*k≤cur.size:=by rw [hcs];exact Nat.mul_le_mul_right k hnc
  apply List.ext_getElem?
  intro t
  by_cases ht:t<n*k
  ·rw [List.getElem?_take_of_lt ht]
   have h1:(putCells id 0 (flatK enc k d') cur).toList[t]? = some ((flatK enc k d')[t]!):=by
    simp only [putCells,Array.getElem?_toList,Array.getElem?_mapIdx]
    rw [Array.getElem?_eq_getElem (by omega)]
    simp [hfl,ht]
   rw [h1,List.getElem?_eq_getElem (by simpa [hfl] using ht),getElem!_pos _ t (by omega)]
   simp
  ·rw [List.getElem?_eq_none (by simp;omega),List.getElem?_eq_none (by simp [hd];omega)]
 ·rw [heap_grow_old _ _ (by unfold putRowK;rw [size_putRow];exact hj)]
  show (mapBlock (Sort.ahead w m) g0 _).heap[j]? = _
  have:g0≠j:=fun e=>hne (by simp [Value.ownBlock,e])
  simp [mapBlock,Array.getElem?_modify,this]
theorem St.grown {w:World} {H:List SP} (s:St W H w) (os:Array Obj):St W H (Go.Sort.grow w os):=by
 have h:=St.act (A:=[]) (B:=[]) (H:=H) (w':=Go.Sort.grow w os) s rfl rfl rfl (by rw [size_grow];omega) (fun h1 _ _=>⟨fun _=>none,trivial,(fun _ _ q=>by cases q),(fun _ _ q=>by cases q),fun k hk _=>heap_grow_old w os hk⟩)
 exact h
def LessOk (P:Program) (g:FuncId) (bs k:Nat) (enc:α→List Value) (lt:α→α→Bool):Prop:=
 ∀ (w:World) (blk c:Nat) (d:Array α),HoldsK enc k w blk 0 d→w.cell? ⟨bs,0,none⟩=some (.slice (some ⟨blk,0,none⟩) d.size c)→d.size<4611686018427387904→∀ i j:Nat,i<d.size→j<d.size→
  Calls P g #[.int .i64 i,.int .i64 j,.pointer (some ⟨bs,0,none⟩)] w fun e w'=>e=.returned (.bool (lt d[i]! d[j]!))∧∃ q,w'=w.drewN q
theorem sort_ct (L:LaysGg.n6 P ρ) (t e:TypeId) (i ie:TypeInfo) (hi:P.info? t=some i) (hd:i.desc=.slice e) (hpk:P.packed t=false) (hie:P.info? e=some ie) (ke:Nat) (hke:∀ w,(Extern.Rtype.kind e).run P w=.ok ke w)
 (enc:α→List Value) (k:Nat) (hk:∀ x,(enc x).length=k) (hs1:ie.size=k) (hagg:∀ w,(isAgg e).run P w=.ok true w) (h1:∀ x,∀ v ∈ enc x,v.oneCell'=true) (lt:α→α→Bool) (hO:SWO lt) (g:Nat)
 (eg : ∀ args w, (callFunc g args).run P w = .ok (.enter g args) w) (hf : ∀ n, ∃ f, P.funcs.findIdx? (·.name == "internal/reflectlite" ++ ".Swapper$" ++ toString (swapperK n ie ke)) = some f ∧ (2 ≤ n → ∃ gS, ∀ args W, (callFunc f args).run P W = ((Extern.ReflectliteSwapper.swap gS args).run P W).andThen fun v w' => .ok (.value v) w'))
 (bs T:Nat) (hless:LessOk P g bs k enc lt) (l:List α) (hl:l.length<4611686018427387904) (v:Value) :
 Ct P W (ρ.f 6) [.iface t v,.func (.func g) #[] #[.pointer (some ⟨bs,0,none⟩)]] [zAn bs [v] T,rowP v e k l.length (l.flatMap enc)] (fun _:{l':List α//l'.Perm l∧l'.Pairwise fun x y=>lt y x=false}=>.tuple #[]) (fun x=>[zAn bs [v] T,rowP v e k l.length (x.1.flatMap enc)]):=by
 refine ⟨fun R w s=>?_⟩
 obtain ⟨f,hf1,hf2⟩:=hf l.length
 have hs0:=(s.blk (R:=rowP v e k l.length (l.flatMap enc)::R) .here).2
 have hcell:w.cell? ⟨bs,0,none⟩=some v:=by rw [hs0.cell];rfl
 have hbs:bs<w.heap.size:=World.block_lt_of_cell? w ⟨bs,0,none⟩ hcell
 have hsel:Sel (rowP v e k l.length (l.flatMap enc)) (zAn bs [v] T::rowP v e k l.length (l.flatMap enc)::R) (zAn bs [v] T::R):=.there .here
 have hrow:=s.row hsel
 by_cases h2:l.length≤1
 ·have hshape:∃ p c,v=.slice p l.length c:=by
   rcases hrow.2 with ⟨hv,h0⟩|⟨gg,cp,_,hv,_⟩
   ·exact ⟨none,0,by rw [hv,h0]⟩
   ·exact ⟨_,cp,hv⟩
  obtain ⟨p,c,rfl⟩:=hshape
  refine (Any.sort_Slice_tiny L t e i ie hi hd hpk hie ke hke p l.length c h2 f hf1 (.func g) #[] #[.pointer (some ⟨bs,0,none⟩)] w).mono ?_
  rintro en w' ⟨rfl,os,rfl⟩
  refine ⟨⟨l,.refl _,?_⟩,rfl,s.grown os⟩
  match l,h2 with
  |[],_=>exact .nil
  |[x],_=>exact List.pairwise_singleton _ _
 ·rcases hrow.2 with ⟨_,h0⟩|⟨gg,cp,cur,rfl,hbg,hg,hnc,hcm,hcs,hx⟩
  ·omega
  obtain ⟨gS,hx2⟩:=hf2 (by omega)
  have hgs:gg<w.heap.size:=(Array.getElem?_eq_some_iff.1 hg).1
  have hne:bs≠gg:=by
   obtain ⟨g1,g2,dj,hA,hH,l1,l2⟩:=(show St W ([zAn bs [.slice (some ⟨gg,0,none⟩) l.length cp] T]++rowP (.slice (some ⟨gg,0,none⟩) l.length cp) e k l.length (l.flatMap enc)::R) w from s).split
   intro q
   subst q
   obtain ⟨ha,_,_,le,_,hd0,_⟩:=hA
   obtain ⟨hb,_,_,leb,_,⟨_,hdb⟩,_⟩:=hH
   rcases hdb with ⟨hv0,_⟩|⟨g'',cap',cur',hv0,hh0,_⟩
   ·cases hv0
   ·cases hv0
    have:=dj bs _ (le _ _ hd0)
    rw [leb _ _ hh0] at this;cases this
  have hH:HoldsK enc k w gg 0 l.toArray:=by
   intro j hj
   rw [size_flatK] at hj
   have hj:j<l.length*k:=by simpa using hj
   have hjc:j<cur.size:=by rw [hcs];exact Nat.lt_of_lt_of_le hj (Nat.mul_le_mul_right k hnc)
   rw [Nat.zero_add]
   have hfl:=flatK_list hk l.toArray
   refine ⟨?_,by simp [World.frozen?,hg]⟩
   rw [cell_of_row w gg j _ _ _ hg]
   have h3:(cur.toList.take (l.length*k))[j]? = cur[j]?:=by rw [List.getElem?_take_of_lt hj];simp
   rw [← h3,hx,← (show l.toArray.toList=l from rfl),← hfl,List.getElem?_eq_getElem (by simpa using hj),getElem!_pos _ j (by simpa using hj)]
   simp
  have hls:LessReadsK P g #[.pointer (some ⟨bs,0,none⟩)] enc k lt gg 0 l.toArray.size w:=by
   intro m os dk hs i j hi hj
   have e:sortWorldK enc k w gg 0 m dk os=putRowK enc k (Go.Sort.grow (Sort.ahead w m) os) gg 0 dk:=by
    unfold sortWorldK;rw [putRowK_grow _ _ (Sort.ahead w m) _ gg 0 _ hgs]
   have hHg:HoldsK enc k (Go.Sort.grow (Sort.ahead w m) os) gg 0 l.toArray:=holdsK_grow _ _ _ _ gg 0 _ hgs (holdsK_ahead _ _ _ _ _ _ _ hH)
   refine hless _ gg cp dk ?_ ?_ (by rw [hs];simpa using hl) i j (by omega) (by omega)
   ·rw [e];exact holdsK_putRowK _ _ _ gg 0 _ dk hHg hs
   ·rw [e,cell?_putRowK_other _ _ _ gg 0 dk _ (by exact hne),cell?_grow _ _ _ (by exact hbs)]
    rw [hs];exact hcell
  refine (Any.sort_Slice_cells_sorted L t e i ie hi hd hpk hie ke hke enc k hk hs1 hagg h1 lt hO g #[.pointer (some ⟨bs,0,none⟩)] eg gg 0 cp l.toArray (by simp;omega) (by simpa using hl) f (by simpa using hf1) gS hx2 w hls hH hgs).mono ?_
  rintro en w' ⟨rfl,d',n,os,hp,hso,rfl⟩
  have hsz:d'.size=l.length:=by simpa using hp.1
  have hperm:d'.toList.Perm l:=by
   have:=hp.2.2
   simp only [List.size_toArray] at this
   rw [← hsz] at this
   simp only [Array.extract_size] at this
   rw [hsz] at this
   simpa using this
  refine ⟨⟨d'.toList,hperm,?_⟩,rfl,?_⟩
  ·rw [List.pairwise_iff_getElem]
   intro a b ha hb hab
   have ha':a<d'.size:=by simpa using ha
   have hb':b<d'.size:=by simpa using hb
   have:=hso a b (Nat.zero_le _) hab (by simp;omega)
   rw [getElem!_pos d' a ha',getElem!_pos d' b hb'] at this
   simpa using this
  ·have st:=St.sorted (m:=n) hk s hsel d' hsz os
   exact st.perm (.swap _ _ _)
theorem swapperK_two {n:Nat} (h:2≤n) (ie:TypeInfo) (ke:Nat):swapperK n ie ke=swapperK 2 ie ke:=by
 have c:(n == 0)=false:=by simp;omega
 have d:(n == 1)=false:=by simp;omega
 simp [swapperK,c,d]
theorem swaps_of {ie : TypeInfo} {ke a b f k : Nat} {gS : Bool} (h1 : P.funcs.findIdx? (·.name == "internal/reflectlite" ++ ".Swapper$" ++ toString 1) = some a) (h2 : P.funcs.findIdx? (·.name == "internal/reflectlite" ++ ".Swapper$" ++ toString 2) = some b)
 (hk : swapperK 2 ie ke = k) (h3 : P.funcs.findIdx? (·.name == "internal/reflectlite" ++ ".Swapper$" ++ toString k) = some f) (hx : ∀ args W, (callFunc f args).run P W = ((Extern.ReflectliteSwapper.swap gS args).run P W).andThen fun v w' => .ok (.value v) w') :
 ∀ n, ∃ f, P.funcs.findIdx? (·.name == "internal/reflectlite" ++ ".Swapper$" ++ toString (swapperK n ie ke)) = some f ∧ (2 ≤ n → ∃ gS, ∀ args W, (callFunc f args).run P W = ((Extern.ReflectliteSwapper.swap gS args).run P W).andThen fun v w' => .ok (.value v) w') := by
 intro n
 match n with
 |0=>exact ⟨a,h1,fun h=>by omega⟩
 |1=>exact ⟨b,h2,fun h=>by omega⟩
 |n+2=>exact ⟨f,by rw [swapperK_two (by omega),hk];exact h3,fun _=>⟨gS,hx⟩⟩
end
end Go.Proofs.YtnbgcimalpdfoaaGreatDoor
