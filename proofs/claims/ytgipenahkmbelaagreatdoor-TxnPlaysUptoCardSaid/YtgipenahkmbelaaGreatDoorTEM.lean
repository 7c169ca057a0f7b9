/-
  BaW4, SrtX, BaN1.
-/
import Derived.Test.YtgipenahkmbelaaGreatDoorTFE
import Derived.Test.YtgipenahkmbelaaGreatDoorTBB
import Derived.Test.YtgipenahkmbelaaGreatDoorTCP
import Derived.Shelf.SlSortFuncK.WholeK
import Derived.Shelf.GgSortFunc.Tiny
import Derived.Test.YtgipenahkmbelaaGreatDoorTEL
import Derived.Deep.QuietTactic
set_option maxHeartbeats 64000000
namespace Go.Proofs.YtgipenahkmbelaaGreatDoor
open Go Go.RowKit
abbrev plTEM0:Pl:=(.op 0 (.op 1 (.op 2 (.op 3 (.op 4 (.op 5 (.op 6 (.op 7 (.op 8 (.op 9 (.op 10 (.op 11 .nil))))))))))))
abbrev plTEM1:Pl:=(.op 0 (.op 1 (.op 2 .nil)))
section
variable {W:World} {F:Nat→Addr}
theorem bencode_ct (A:SP) (a:Option Addr) (c:Nat) (ops:List BOp) (hL:Lv W opC 3 A a ops) (hlen:(encAll ops).length+64≤140737488355328) (h63:ops.length≤140737488355328)
 (e4:(encode ops).2=4→W.cell? ⟨13,0,none⟩=some (errV F 4)) (e7:(encode ops).2=7→W.cell? ⟨15,0,none⟩=some (errV F 7)) :
 Ct Tryz.prog W 122 [.slice a ops.length c] [A] (fun _:Unit=>.tuple #[strV (encode ops).1,errV F (encode ops).2]) (fun _=>[A]):=by
 have cn:=wnew_ct (W:=W)
 have cu:∀ p,Ct Tryz.prog W 97 [.pointer (some ⟨p,0,none⟩),.int .u64 (ops.length:Nat)] [WrP p []] (fun _:Unit=>.tuple #[]) (fun _=>[WrP p (encTo ops 0)]):=fun p=>by
  have:=wuint_ct (W:=W) (p:=p) (l:=[]) ops.length (by omega) (by simp)
  rw [encTo_zero];exact this
 have e1:IntKind.u64.wrap ((ops.length:Nat):Int)=((ops.length:Nat):Int):=u64_wrap _ (by omega)
 refine Ct.enter Tryz.func122 rfl Tryz.ntmps122 (by simp) (fun R=>?_)
 repeat' (first|refine xst ?_|(refine xsa ?_;intro _)|(refine xsb ?_ ?_ <;>intro _<;>try (exfalso;omega))|refine xsc ?_|(refine zAa (id:=4) plTEM0 (by kernel_rfl) (by kernel_rfl) ?_)|(refine zAa (id:=5) plTEM1 (by kernel_rfl) (by kernel_rfl) ?_)|(refine zAa (id:=16) plTEM1 (by kernel_rfl) (by kernel_rfl) ?_)|refine zAp ?_ ?_|refine zAn rfl rfl rfl rfl rfl ?_ ?_|refine zAg ?_ ?_|exact Rech.nil|fail)
 refine zBv (fun i:{i:Nat//(i=0∨i<ops.length)∧AdjTo ops (i+1)}=>[(0,.slice a ops.length c),(4,.int .i64 ((i.1+1:Nat):Int))])
  (fun i=>[A]++R) (fun i=>ops.length-i.1) ⟨0,.inl rfl,AdjTo.one ops⟩ xB (xN) (fun ⟨i,hi,hadj⟩=>?_)
 dsimp only
 by_cases hlt:i+1<ops.length
 ·have ql:decide (((i+1:Nat):Int)<(ops.length:Nat))=true:=decide_eq_true (by omega)
  obtain ⟨x,hx⟩:∃ s,ops[i]? = some s:=⟨_,List.getElem?_eq_getElem (by omega)⟩
  obtain ⟨y,hy⟩:∃ s,ops[i+1]? = some s:=⟨_,List.getElem?_eq_getElem hlt⟩
  refine KJ.lvSome hL xS (by omega) (fun b of hab=>?_)
  subst hab
  have ho1:of+Int.toNat ((i+1:Nat):Int)*3+1=of+(i+1)*3+1:=by simp
  have ho0:of+Int.toNat ((i:Nat):Int)*3+1=of+i*3+1:=by simp
  have kx:(opC x)[1]? = some (strV x.key):=rfl
  have ky:(opC y)[1]? = some (strV y.key):=rfl
  have hle:=leq_not y.key x.key
  cases hl:Op.bytesLess x.key y.key with
  |true=>
   rw [hl,Bool.not_true] at hle
   repeat' (first|(refine zAm ?_;first|refine zAb (zBj zCa hL rfl rfl xS ho0 hx kx) ?_|refine zAb (zBj zCa hL rfl rfl xS ho1 hy ky) ?_)|(refine zBh ?_;refine zAb (zAi (r:=((i+1+1:Nat):Int)) rfl rfl (by omega) (by omega)) ?_)|(refine ek_sub ?_;refine zAb (Ev_subI_v (r:=((i:Nat):Int)) rfl rfl (by omega) (by omega)) ?_)|(refine zAq ?_;refine zAb (zAe rfl rfl ql) ?_)|(refine ek_leq ?_;refine zAb (Ev_leqS_q rfl rfl hle) ?_)|refine xst ?_|(refine xsa ?_;intro _)|(refine xsb ?_ ?_ <;>intro _<;>try (exfalso;omega))|refine xsc ?_|(refine zAa (id:=4) plTEM0 (by kernel_rfl) (by kernel_rfl) ?_)|(refine zAa (id:=5) plTEM1 (by kernel_rfl) (by kernel_rfl) ?_)|(refine zAa (id:=16) plTEM1 (by kernel_rfl) (by kernel_rfl) ?_)|refine zAp ?_ ?_|refine zAn rfl rfl rfl rfl rfl ?_ ?_|refine zAg ?_ ?_|exact Rech.nil|fail)
   all_goals refine zAv ⟨i+1,.inr hlt,hadj.next hx hy hl⟩ (by show ops.length-(i+1)<ops.length-i;omega) xB (xN)
  |false=>
   rw [hl,Bool.not_false] at hle
   have he:=encode_order (rises_not hx hy hl)
   have e4':=e4 (by rw [he])
   repeat' (first|(refine zAm ?_;first|refine zAb (zAt rfl e4') ?_|refine zAb (zBj zCa hL rfl rfl xS ho0 hx kx) ?_|refine zAb (zBj zCa hL rfl rfl xS ho1 hy ky) ?_)|(refine ek_sub ?_;refine zAb (Ev_subI_v (r:=((i:Nat):Int)) rfl rfl (by omega) (by omega)) ?_)|(refine zAq ?_;refine zAb (zAe rfl rfl ql) ?_)|(refine ek_leq ?_;refine zAb (Ev_leqS_q rfl rfl hle) ?_)|refine xst ?_|(refine xsa ?_;intro _)|(refine xsb ?_ ?_ <;>intro _<;>try (exfalso;omega))|refine xsc ?_|(refine zAa (id:=4) plTEM0 (by kernel_rfl) (by kernel_rfl) ?_)|(refine zAa (id:=5) plTEM1 (by kernel_rfl) (by kernel_rfl) ?_)|(refine zAa (id:=16) plTEM1 (by kernel_rfl) (by kernel_rfl) ?_)|refine zAp ?_ ?_|refine zAn rfl rfl rfl rfl rfl ?_ ?_|refine zAg ?_ ?_|exact Rech.nil|fail)
   all_goals exact xdn () (hc:=by rw [he];rfl)
 have ql:decide (((i+1:Nat):Int)<(ops.length:Nat))=false:=decide_eq_false (by omega)
 have hr:risesB ops=true:=AdjTo.rises (ops:=ops) fun j x y hj hx hy=>hadj j x y (by omega) hx hy
 repeat' (first|(refine zAd ?_;first|(refine zAc xE cn xP rfl (fun p=>?_))|(refine zAc xE (cu p) xP rfl (fun _=>?_)))|(refine zBu ?_;refine zAb (zAw rfl e1) ?_)|(refine zAq ?_;refine zAb (zAe rfl rfl ql) ?_)|refine xst ?_|(refine xsa ?_;intro _)|(refine xsb ?_ ?_ <;>intro _<;>try (exfalso;omega))|refine xsc ?_|(refine zAa (id:=4) plTEM0 (by kernel_rfl) (by kernel_rfl) ?_)|(refine zAa (id:=5) plTEM1 (by kernel_rfl) (by kernel_rfl) ?_)|(refine zAa (id:=16) plTEM1 (by kernel_rfl) (by kernel_rfl) ?_)|refine zAp ?_ ?_|refine zAn rfl rfl rfl rfl rfl ?_ ?_|refine zAg ?_ ?_|exact Rech.nil|fail)
 refine zBv (fun i:{i:Nat//i≤ops.length∧∀ j o,ops[j]? = some o→j<i→formB o=true}=>[(5,.pointer (some ⟨p,0,none⟩)),(33,.slice a ops.length c),(34,.int .i64 (ops.length:Nat)),(35,.int .i64 (i.1:Nat))])
  (fun i=>[WrP p (encTo ops i.1),A]++R) (fun i=>ops.length-i.1) ⟨0,Nat.zero_le _,fun _ _ _ h=>absurd h (by omega)⟩ xB (xN) (fun ⟨i,hi,hf⟩=>?_)
 dsimp only
 by_cases hlt:i<ops.length
 ·have ql:decide ((i:Int)<(ops.length:Nat))=true:=decide_eq_true (by omega)
  obtain ⟨o,ho⟩:∃ s,ops[i]? = some s:=⟨_,List.getElem?_eq_getElem hlt⟩
  refine KJ.lvSome hL xS (by omega) (fun b of hab=>?_)
  subst hab
  have hoff:of+Int.toNat (i:Int)*3=of+i*3:=by simp
  have htot:=encTo_len ho
  have hnx:=encTo_next ho
  have hfn:formB o=true→∀ j o',ops[j]? = some o'→j<i+1→formB o'=true:=fun hfo j o' h1 h2=>by
   by_cases e:j=i
   ·subst e;rw [ho] at h1;cases h1;exact hfo
   ·exact hf j o' h1 (by omega)
  obtain ⟨X,hX⟩:∃ X,X=encTo ops i:=⟨_,rfl⟩
  rw [← hX] at htot hnx ⊢
  obtain ⟨del,key,val⟩:=o
  have tk:=tx_len key
  have tv:=tx_len val
  cases del with
  |false=>
   rw [encOp_put] at htot hnx
   simp only [List.length_cons,List.length_append] at htot
   have c1:=wbyte_ct (W:=W) (p:=p) (l:=X) 0 (by omega)
   have c2:=wtext_ct (W:=W) (p:=p) (l:=X++[0]) key (by simp only [List.length_append,List.length_singleton];omega)
   have c3:Ct Tryz.prog W 132 [.pointer (some ⟨p,0,none⟩),strV val] [WrP p (X++[0]++tx key)] (fun _:Unit=>.tuple #[]) (fun _=>[WrP p (encTo ops (i+1))]):=by
    have:=wtext_ct (W:=W) (p:=p) (l:=X++[0]++tx key) val (by simp only [List.length_append,List.length_singleton];omega)
    rw [hnx]
    simpa only [List.append_assoc,List.singleton_append,List.cons_append,List.nil_append] using this
   repeat' (first|(refine zBc ?_;refine zAu rfl (fun g5=>?_))|(refine zAd ?_;first|(refine zAc xE c3 xP rfl (fun _=>?_))|(refine zAc xE c2 xP rfl (fun _=>?_))|(refine zAc xE c1 xP rfl (fun _=>?_)))|(refine zAm ?_;refine zAb (zBn zCa hL rfl rfl xS hoff ho) ?_)|(refine zBh ?_;refine zAb (zAi (r:=((i+1:Nat):Int)) rfl rfl (by omega) (by omega)) ?_)|(refine zAq ?_;refine zAb (zAe rfl rfl ql) ?_)|refine xst ?_|(refine xsa ?_;intro _)|(refine xsb ?_ ?_ <;>intro _<;>try (exfalso;omega))|refine xsc ?_|(refine zAa (id:=4) plTEM0 (by kernel_rfl) (by kernel_rfl) ?_)|(refine zAa (id:=5) plTEM1 (by kernel_rfl) (by kernel_rfl) ?_)|(refine zAa (id:=16) plTEM1 (by kernel_rfl) (by kernel_rfl) ?_)|refine zAp ?_ ?_|refine zAn rfl rfl rfl rfl rfl ?_ ?_|refine zAg ?_ ?_|exact Rech.nil|fail)
   all_goals refine zAv ⟨i+1,hlt,hfn rfl⟩ (by show ops.length-(i+1)<ops.length-i;omega) xB (xN)
  |true=>
   by_cases hv:val=[]
   ·subst hv
    rw [encOp_del] at htot hnx
    simp only [List.length_cons] at htot
    have c1:=wbyte_ct (W:=W) (p:=p) (l:=X) 1 (by omega)
    have c2:Ct Tryz.prog W 132 [.pointer (some ⟨p,0,none⟩),strV key] [WrP p (X++[1])] (fun _:Unit=>.tuple #[]) (fun _=>[WrP p (encTo ops (i+1))]):=by
     have:=wtext_ct (W:=W) (p:=p) (l:=X++[1]) key (by simp only [List.length_append,List.length_singleton];omega)
     rw [hnx]
     simpa only [List.append_assoc,List.singleton_append,List.cons_append,List.nil_append] using this
    repeat' (first|(refine zBc ?_;refine zAu rfl (fun g5=>?_))|(refine zAd ?_;first|(refine zAc xE c2 xP rfl (fun _=>?_))|(refine zAc xE c1 xP rfl (fun _=>?_)))|(refine zAm ?_;refine zAb (zBn zCa hL rfl rfl xS hoff ho) ?_)|(refine zBh ?_;refine zAb (zAi (r:=((i+1:Nat):Int)) rfl rfl (by omega) (by omega)) ?_)|(refine zBz ?_;refine zAb (Ev_neqS_f rfl rfl rfl) ?_)|(refine zAq ?_;refine zAb (zAe rfl rfl ql) ?_)|refine xst ?_|(refine xsa ?_;intro _)|(refine xsb ?_ ?_ <;>intro _<;>try (exfalso;omega))|refine xsc ?_|(refine zAa (id:=4) plTEM0 (by kernel_rfl) (by kernel_rfl) ?_)|(refine zAa (id:=5) plTEM1 (by kernel_rfl) (by kernel_rfl) ?_)|(refine zAa (id:=16) plTEM1 (by kernel_rfl) (by kernel_rfl) ?_)|refine zAp ?_ ?_|refine zAn rfl rfl rfl rfl rfl ?_ ?_|refine zAg ?_ ?_|exact Rech.nil|fail)
    all_goals refine zAv ⟨i+1,hlt,hfn rfl⟩ (by show ops.length-(i+1)<ops.length-i;omega) xB (xN)
   ·have he:=encode_form hr ho (by unfold formB;simp [hv])
    have e7':=e7 (by rw [he])
    repeat' (first|(refine zBc ?_;refine zAu rfl (fun g5=>?_))|(refine zAm ?_;first|refine zAb (zAt rfl e7') ?_|refine zAb (zBn zCa hL rfl rfl xS hoff ho) ?_)|(refine zBz ?_;refine zAb (Ev_neqS_t rfl rfl hv) ?_)|(refine zAq ?_;refine zAb (zAe rfl rfl ql) ?_)|refine xst ?_|(refine xsa ?_;intro _)|(refine xsb ?_ ?_ <;>intro _<;>try (exfalso;omega))|refine xsc ?_|(refine zAa (id:=4) plTEM0 (by kernel_rfl) (by kernel_rfl) ?_)|(refine zAa (id:=5) plTEM1 (by kernel_rfl) (by kernel_rfl) ?_)|(refine zAa (id:=16) plTEM1 (by kernel_rfl) (by kernel_rfl) ?_)|refine zAp ?_ ?_|refine zAn rfl rfl rfl rfl rfl ?_ ?_|refine zAg ?_ ?_|exact Rech.nil|fail)
    all_goals exact xdn () (hc:=by rw [he];rfl)
 have ql:decide ((i:Int)<(ops.length:Nat))=false:=decide_eq_false (by omega)
 obtain rfl:i=ops.length:=by omega
 have he:=encode_ok hr (fun j o h1 h2=>hf j o h1 h2)
 rw [encTo_all]
 have hp:=encTo_pos ops ops.length
 rw [encTo_all] at hp
 have co:=wout_ct (W:=W) (p:=p) (l:=encAll ops) hp
 repeat' (first|(refine zAd ?_;refine zAc xE co xP rfl (fun _=>?_))|(refine zAq ?_;refine zAb (zAe rfl rfl ql) ?_)|refine xst ?_|(refine xsa ?_;intro _)|(refine xsb ?_ ?_ <;>intro _<;>try (exfalso;omega))|refine xsc ?_|(refine zAa (id:=4) plTEM0 (by kernel_rfl) (by kernel_rfl) ?_)|(refine zAa (id:=5) plTEM1 (by kernel_rfl) (by kernel_rfl) ?_)|(refine zAa (id:=16) plTEM1 (by kernel_rfl) (by kernel_rfl) ?_)|refine zAp ?_ ?_|refine zAn rfl rfl rfl rfl rfl ?_ ?_|refine zAg ?_ ?_|exact Rech.nil|fail)
 all_goals exact xdn () (hc:=by rw [he];rfl)
end
end Go.Proofs.YtgipenahkmbelaaGreatDoor
namespace Go.Proofs.YtgipenahkmbelaaGreatDoor
open Go Go.RowKit Go.Shelf Go.Lib Go.Sort
section
variable {α:Type} {enc:α→List Value} {k:Nat}
theorem flatK_list [Inhabited α] (hk:∀ x,(enc x).length=k) (d:Array α):(flatK enc k d).toList=d.toList.flatMap enc:=by
 apply List.ext_getElem?
 intro t
 by_cases ht:t<d.size*k
 ·have k0:0<k:=by rcases Nat.eq_zero_or_pos k with h|h;· subst h;simp at ht
                  ·exact h
  have hi:t / k<d.size:=Nat.div_lt_of_lt_mul (by rw [Nat.mul_comm];exact ht)
  have hc:t % k<k:=Nat.mod_lt _ k0
  have e2:=flatE_get hk d.toList (t / k) (t % k) hc
  rw [Nat.div_add_mod'] at e2
  rw [e2]
  have e1:=get_flatK enc k d t ht
  have hs:t<(flatK enc k d).toList.length:=by simpa using ht
  have h3:(flatK enc k d).toList[t]? = some (flatK enc k d)[t]!:=by
   rw [List.getElem?_eq_getElem hs,getElem!_pos _ t (by simpa using ht)];simp
  rw [h3,e1]
  have h4:d.toList[t / k]? = some d[t / k]!:=by
   rw [List.getElem?_eq_getElem (by simpa using hi),getElem!_pos d _ hi];simp
  rw [h4]
  have h5:t % k<(enc d[t / k]!).length:=by rw [hk];exact hc
  simp only [Option.bind_some]
  rw [List.getElem?_eq_getElem h5,getElem!_pos (enc d[t / k]!) (t % k) h5]
 ·rw [List.getElem?_eq_none (by simpa using ht),List.getElem?_eq_none (by rw [flatE_length hk];simpa using ht)]
end
section
variable {P:Program} {W:World} {ρ:Ren} {α:Type} [Inhabited α]
theorem St.sorted {w:World} {H R:List SP} {g0 n cap k e m:Nat} {xs:List Value} {enc:α→List Value} (hk:∀ x,(enc x).length=k) (s:St W H w) (hsel:Sel (rowP (.slice (some ⟨g0,0,none⟩) n cap) e k n xs) H R) (d':Array α) (hd:d'.size=n) (os:Array Obj) :
 St W (rowP (.slice (some ⟨g0,0,none⟩) n cap) e k n (d'.toList.flatMap enc)::R) (Go.Sort.grow (putRowK enc k (Sort.ahead w m) g0 0 d') os):=by
 obtain ⟨hxl,hr⟩:=s.row hsel
 rcases hr with ⟨hv,_⟩|⟨g,cp,cur,hv,hbg,hg,hnc,hcm,hcs,hx⟩
 ·cases hv
 cases hv
 have hgs:g0<w.heap.size:=(Array.getElem?_eq_some_iff.1 hg).1
 have hfl:(flatK enc k d').size=n*k:=by rw [size_flatK,hd]
 have hh:(Go.Sort.grow (putRowK enc k (Sort.ahead w m) g0 0 d') os).heap[g0]? = some (.cells (putCells id 0 (flatK enc k d') cur) e (0,0)):=by
  rw [heap_grow_old _ _ (by unfold putRowK;rw [size_putRow];exact hgs)]
  show (mapBlock (Sort.ahead w m) g0 (putCells id 0 (flatK enc k d'))).heap[g0]? = _
  simp only [mapBlock,heap_ahead,Array.getElem?_modify,hg]
  rfl
 refine s.rowStep hsel ⟨by rw [flatE_length hk];simp [hd],.inr ⟨g0,cap,_,rfl,hbg,hh,hnc,hcm,by simpa [putCells] using hcs,?_⟩⟩ ⟨rfl,rfl,rfl,by rw [size_grow];unfold putRowK;rw [size_putRow];show w.heap.size≤w.heap.size+os.size;omega,fun j hj hne=>?_⟩ (fun g' hg'=>.inl hg')
 ·rw [← flatK_list hk d']
  have hnk:n*k≤cur.size:=by rw [hcs];exact Nat.mul_le_mul_right k hnc
  apply List.ext_getElem?
  intro t
  by_cases ht:t<n*k
  ·rw [List.getElem?_take_of_lt ht]
   have h1:(putCells id 0 (flatK enc k d') cur).toList[t]? = some ((flatK enc k d')[t]!):=by
    simp only [putCells,Array.getElem?_toList,Array.getElem?_mapIdx]
    rw [Array.getElem?_eq_getElem (by omega)]
    simp [hfl,ht]
   rw [h1,List.getElem?_eq_getElem (by simpa [hfl] using ht),getElem!_pos _ t (by omega)]
   simp
  ·rw [List.getElem?_eq_none (by simp;omega),List.getElem?_eq_none (by simp [hd];omega)]
 ·rw [heap_grow_old _ _ (by unfold putRowK;rw [size_putRow];exact hj)]
  show (mapBlock (Sort.ahead w m) g0 _).heap[j]? = _
  have:g0≠j:=fun e=>hne (by simp [Value.ownBlock,e])
  simp [mapBlock,Array.getElem?_modify,this]
theorem St.grown {w:World} {H:List SP} (s:St W H w) (os:Array Obj):St W H (Go.Sort.grow w os):=by
 have h:=St.act (A:=[]) (B:=[]) (H:=H) (w':=Go.Sort.grow w os) s rfl rfl rfl (by rw [size_grow];omega) (fun h1 _ _=>⟨fun _=>none,trivial,(fun _ _ q=>by cases q),(fun _ _ q=>by cases q),fun k hk _=>heap_grow_old w os hk⟩)
 exact h
def LessOk (P:Program) (g:FuncId) (bs k:Nat) (enc:α→List Value) (lt:α→α→Bool):Prop:=
 ∀ (w:World) (blk c:Nat) (d:Array α),HoldsK enc k w blk 0 d→w.cell? ⟨bs,0,none⟩=some (.slice (some ⟨blk,0,none⟩) d.size c)→d.size<4611686018427387904→∀ i j:Nat,i<d.size→j<d.size→
  Calls P g #[.int .i64 i,.int .i64 j,.pointer (some ⟨bs,0,none⟩)] w fun e w'=>e=.returned (.bool (lt d[i]! d[j]!))∧∃ q,w'=w.drewN q
theorem sort_ct (L:LaysGg.n6 P ρ) (t e:TypeId) (i ie:TypeInfo) (hi:P.info? t=some i) (hd:i.desc=.slice e) (hpk:P.packed t=false) (hie:P.info? e=some ie) (ke:Nat) (hke:∀ w,(Extern.Rtype.kind e).run P w=.ok ke w)
 (enc:α→List Value) (k:Nat) (hk:∀ x,(enc x).length=k) (hs1:ie.size=k) (hagg:∀ w,(isAgg e).run P w=.ok true w) (h1:∀ x,∀ v ∈ enc x,v.oneCell'=true) (lt:α→α→Bool) (hO:SWO lt) (g:Nat)
 (eg : ∀ args w, (callFunc g args).run P w = .ok (.enter g args) w) (hf : ∀ n, ∃ f, P.funcs.findIdx? (·.name == "internal/reflectlite" ++ ".Swapper$" ++ toString (swapperK n ie ke)) = some f ∧ (2 ≤ n → ∃ gS, ∀ args W, (callFunc f args).run P W = ((Extern.ReflectliteSwapper.swap gS args).run P W).andThen fun v w' => .ok (.value v) w'))
 (bs T:Nat) (hless:LessOk P g bs k enc lt) (l:List α) (hl:l.length<4611686018427387904) (v:Value) :
 Ct P W (ρ.f 6) [.iface t v,.func (.func g) #[] #[.pointer (some ⟨bs,0,none⟩)]] [zAh bs [v] T,rowP v e k l.length (l.flatMap enc)] (fun _:{l':List α//l'.Perm l∧l'.Pairwise fun x y=>lt y x=false}=>.tuple #[]) (fun x=>[zAh bs [v] T,rowP v e k l.length (x.1.flatMap enc)]):=by
 refine ⟨fun R w s=>?_⟩
 obtain ⟨f,hf1,hf2⟩:=hf l.length
 have hs0:=(s.blk (R:=rowP v e k l.length (l.flatMap enc)::R) .here).2
 have hcell:w.cell? ⟨bs,0,none⟩=some v:=by rw [hs0.cell];rfl
 have hbs:bs<w.heap.size:=World.block_lt_of_cell? w ⟨bs,0,none⟩ hcell
 have hsel:Sel (rowP v e k l.length (l.flatMap enc)) (zAh bs [v] T::rowP v e k l.length (l.flatMap enc)::R) (zAh bs [v] T::R):=.there .here
 have hrow:=s.row hsel
 by_cases h2:l.length≤1
 ·have hshape:∃ p c,v=.slice p l.length c:=by
   rcases hrow.2 with ⟨hv,h0⟩|⟨gg,cp,_,hv,_⟩
   ·exact ⟨none,0,by rw [hv,h0]⟩
   ·exact ⟨_,cp,hv⟩
  obtain ⟨p,c,rfl⟩:=hshape
  refine (Any.sort_Slice_tiny L t e i ie hi hd hpk hie ke hke p l.length c h2 f hf1 (.func g) #[] #[.pointer (some ⟨bs,0,none⟩)] w).mono ?_
  rintro en w' ⟨rfl,os,rfl⟩
  refine ⟨⟨l,.refl _,?_⟩,rfl,s.grown os⟩
  match l,h2 with
  |[],_=>exact .nil
  |[x],_=>exact List.pairwise_singleton _ _
 ·rcases hrow.2 with ⟨_,h0⟩|⟨gg,cp,cur,rfl,hbg,hg,hnc,hcm,hcs,hx⟩
  ·omega
  obtain ⟨gS,hx2⟩:=hf2 (by omega)
  have hgs:gg<w.heap.size:=(Array.getElem?_eq_some_iff.1 hg).1
  have hne:bs≠gg:=by
   obtain ⟨g1,g2,dj,hA,hH,l1,l2⟩:=(show St W ([zAh bs [.slice (some ⟨gg,0,none⟩) l.length cp] T]++rowP (.slice (some ⟨gg,0,none⟩) l.length cp) e k l.length (l.flatMap enc)::R) w from s).split
   intro q
   subst q
   obtain ⟨ha,_,_,le,_,hd0,_⟩:=hA
   obtain ⟨hb,_,_,leb,_,⟨_,hdb⟩,_⟩:=hH
   rcases hdb with ⟨hv0,_⟩|⟨g'',cap',cur',hv0,hh0,_⟩
   ·cases hv0
   ·cases hv0
    have:=dj bs _ (le _ _ hd0)
    rw [leb _ _ hh0] at this;cases this
  have hH:HoldsK enc k w gg 0 l.toArray:=by
   intro j hj
   rw [size_flatK] at hj
   have hj:j<l.length*k:=by simpa using hj
   have hjc:j<cur.size:=by rw [hcs];exact Nat.lt_of_lt_of_le hj (Nat.mul_le_mul_right k hnc)
   rw [Nat.zero_add]
   have hfl:=flatK_list hk l.toArray
   refine ⟨?_,by simp [World.frozen?,hg]⟩
   rw [cell_of_row w gg j _ _ _ hg]
   have h3:(cur.toList.take (l.length*k))[j]? = cur[j]?:=by rw [List.getElem?_take_of_lt hj];simp
   rw [← h3,hx,← (show l.toArray.toList=l from rfl),← hfl,List.getElem?_eq_getElem (by simpa using hj),getElem!_pos _ j (by simpa using hj)]
   simp
  have hls:LessReadsK P g #[.pointer (some ⟨bs,0,none⟩)] enc k lt gg 0 l.toArray.size w:=by
   intro m os dk hs i j hi hj
   have e:sortWorldK enc k w gg 0 m dk os=putRowK enc k (Go.Sort.grow (Sort.ahead w m) os) gg 0 dk:=by
    unfold sortWorldK;rw [putRowK_grow _ _ (Sort.ahead w m) _ gg 0 _ hgs]
   have hHg:HoldsK enc k (Go.Sort.grow (Sort.ahead w m) os) gg 0 l.toArray:=holdsK_grow _ _ _ _ gg 0 _ hgs (holdsK_ahead _ _ _ _ _ _ _ hH)
   refine hless _ gg cp dk ?_ ?_ (by rw [hs];simpa using hl) i j (by omega) (by omega)
   ·rw [e];exact holdsK_putRowK _ _ _ gg 0 _ dk hHg hs
   ·rw [e,cell?_putRowK_other _ _ _ gg 0 dk _ (by exact hne),cell?_grow _ _ _ (by exact hbs)]
    rw [hs];exact hcell
  refine (Any.sort_Slice_cells_sorted L t e i ie hi hd hpk hie ke hke enc k hk hs1 hagg h1 lt hO g #[.pointer (some ⟨bs,0,none⟩)] eg gg 0 cp l.toArray (by simp;omega) (by simpa using hl) f (by simpa using hf1) gS hx2 w hls hH hgs).mono ?_
  rintro en w' ⟨rfl,d',n,os,hp,hso,rfl⟩
  have hsz:d'.size=l.length:=by simpa using hp.1
  have hperm:d'.toList.Perm l:=by
   have:=hp.2.2
   simp only [List.size_toArray] at this
   rw [← hsz] at this
   simp only [Array.extract_size] at this
   rw [hsz] at this
   simpa using this
  refine ⟨⟨d'.toList,hperm,?_⟩,rfl,?_⟩
  ·rw [List.pairwise_iff_getElem]
   intro a b ha hb hab
   have ha':a<d'.size:=by simpa using ha
   have hb':b<d'.size:=by simpa using hb
   have:=hso a b (Nat.zero_le _) hab (by simp;omega)
   rw [getElem!_pos d' a ha',getElem!_pos d' b hb'] at this
   simpa using this
  ·have st:=St.sorted (m:=n) hk s hsel d' hsz os
   exact st.perm (.swap _ _ _)
theorem swapperK_two {n:Nat} (h:2≤n) (ie:TypeInfo) (ke:Nat):swapperK n ie ke=swapperK 2 ie ke:=by
 have c:(n == 0)=false:=by simp;omega
 have d:(n == 1)=false:=by simp;omega
 simp [swapperK,c,d]
theorem swaps_of {ie : TypeInfo} {ke a b f k : Nat} {gS : Bool} (h1 : P.funcs.findIdx? (·.name == "internal/reflectlite" ++ ".Swapper$" ++ toString 1) = some a) (h2 : P.funcs.findIdx? (·.name == "internal/reflectlite" ++ ".Swapper$" ++ toString 2) = some b)
 (hk : swapperK 2 ie ke = k) (h3 : P.funcs.findIdx? (·.name == "internal/reflectlite" ++ ".Swapper$" ++ toString k) = some f) (hx : ∀ args W, (callFunc f args).run P W = ((Extern.ReflectliteSwapper.swap gS args).run P W).andThen fun v w' => .ok (.value v) w') :
 ∀ n, ∃ f, P.funcs.findIdx? (·.name == "internal/reflectlite" ++ ".Swapper$" ++ toString (swapperK n ie ke)) = some f ∧ (2 ≤ n → ∃ gS, ∀ args W, (callFunc f args).run P W = ((Extern.ReflectliteSwapper.swap gS args).run P W).andThen fun v w' => .ok (.value v) w') := by
 intro n
 match n with
 |0=>exact ⟨a,h1,fun h=>by omega⟩
 |1=>exact ⟨b,h2,fun h=>by omega⟩
 |n+2=>exact ⟨f,by rw [swapperK_two (by omega),hk];exact h3,fun _=>⟨gS,hx⟩⟩
end
end Go.Proofs.YtgipenahkmbelaaGreatDoor
namespace Go.Proofs.YtgipenahkmbelaaGreatDoor
open Go Go.RowKit Go.Shelf Go.Lib Go.Sort
def ltKey (a b:BOp):Bool:=Op.bytesLess a.key b.key
theorem MapOk.norm {ops:List BOp} {m:BMap} (h:MapOk ops m) {l:List BOp} (hp:l.Perm (m.map (·.2))) (hs:l.Pairwise fun x y=>ltKey y x=false):l=zBy ops:=by
 have hk:∀ p ∈ m,p.2.key=p.1:=fun p hp=>by
  have:=lk_of h.1 hp
  rw [h.2] at this
  exact (lastOf_some this).1
 have hm:(m.map (·.2)).map BOp.key=m.map (·.1):=by
  rw [List.map_map]
  exact List.map_congr_left hk
 refine normD_of (rising_sorted hs ?_) fun x=>?_
 ·have:=(hp.map BOp.key).nodup_iff
  rw [this,hm];exact h.1
 ·rw [hp.mem_iff,← h.2]
  constructor
  ·intro hx
   obtain ⟨p,h1,rfl⟩:=List.mem_map.1 hx
   rw [hk p h1]
   exact lk_of h.1 h1
  ·intro hx
   exact List.mem_map.2 ⟨_,lk_mem hx,rfl⟩
theorem swo_key:SWO ltKey where
 irrefl:=fun x=>tl_irr _
 trans:=fun x y z h1 h2=>tl_tr h1 h2
 ntrans:=fun x y z h1 h2=>by
  unfold ltKey at *
  by_cases e:x.key=y.key
  ·rw [e];exact h2
  ·by_cases e2:y.key=z.key
   ·rw [← e2];exact h1
   ·exact tl_asym (tl_tr (tl_not h2 e2) (tl_not h1 e))
noncomputable def opsT:TypeInfo:=(Tryz.prog.info? 43).get (by kernel_rfl)
noncomputable def opT:TypeInfo:=(Tryz.prog.info? 49).get (by kernel_rfl)
theorem less_op (bs:Nat):LessOk Tryz.prog 76 bs 3 opC ltKey:=by
 intro w blk c d hH hs hsz i j hi hj
 have ci:=(hH.cell (i:=i) (c:=1) hi (by omega)).1
 have cj:=(hH.cell (i:=j) (c:=1) hj (by omega)).1
 have ei:(opC d[i]!)[1]! = strV d[i]!.key:=rfl
 have ej:(opC d[j]!)[1]! = strV d[j]!.key:=rfl
 rw [ei,Nat.zero_add] at ci
 rw [ej,Nat.zero_add] at cj
 go_enter Tryz.func76,Tryz.ntmps76
 go_wp2
 go_quiet (fail)
 go_wp2
 go_ret
 exact ⟨by simp [ltKey,hi,hj],nq,rfl⟩
theorem sort_op {W:World} (bs T:Nat) (l:List BOp) (hl:l.length<4611686018427387904) (v:Value) :
 Ct Tryz.prog W 75 [.iface 43 v,.func (.func 76) #[] #[.pointer (some ⟨bs,0,none⟩)]] [zAh bs [v] T,lsP opC 49 3 v l]
  (fun _:{l':List BOp//l'.Perm l∧l'.Pairwise fun x y=>ltKey y x=false}=>.tuple #[]) (fun x=>[zAh bs [v] T,lsP opC 49 3 v x.1]):=by
 have h:=sort_ct (W:=W) Tryz.sl6 43 49 opsT opT (by kernel_rfl) (by kernel_rfl) (by kernel_rfl) (by kernel_rfl) 25 (fun _=>by kernel_rfl) opC 3 (fun _=>rfl) (by kernel_rfl) (fun _=>by kernel_rfl)
  (fun x v hv=>by simp [opC] at hv;rcases hv with rfl|rfl|rfl <;> rfl) ltKey swo_key 76
  (enters_of Tryz.func76 (by kernel_rfl) rfl)
  (swaps_of (a:=149) (b:=150) (f:=157) (k:=9) (gS:=false) (by kernel_rfl) (by kernel_rfl) (by kernel_rfl) (by kernel_rfl)
   (fun args W=>run_callFunc_extern Tryz.func157 (by kernel_rfl) (by kernel_rfl) (by kernel_rfl) (e:=Extern.ReflectliteSwapper.swap false) (by kernel_rfl) args W))
  bs T (less_op bs) l hl v
 refine ⟨fun R w s=>(h.go R w s).mono fun e w' ⟨x,he,st⟩=>⟨x,he,?_⟩⟩
 have hp:=x.2.1.length_eq
 unfold lsP
 rw [hp]
 exact st
section
variable {W:World}
theorem bnormal_ct (A:SP) (a:Option Addr) (c:Nat) (ops:List BOp) (hL:Lv W opC 3 A a ops) (hl:ops.length*40≤140737488355328):Ct Tryz.prog W 44 [.slice a ops.length c] [A] (fun x:Option Addr × Nat=>.slice x.1 (zBy ops).length x.2) (fun x=>[A,lsP opC 49 3 (.slice x.1 (zBy ops).length x.2) (zBy ops)]):=by
 refine Ct.enter Tryz.func44 rfl Tryz.ntmps44 (by simp) (fun R=>?_)
 repeat' (first|(refine is_mkMap ?_;refine KJ_makeMap strV opV rfl (fun mb=>?_))|refine xst ?_|(refine xsa ?_;intro _)|(refine xsb ?_ ?_ <;>intro _<;>try (exfalso;omega))|refine xsc ?_|fail)
 refine zBv (fun i:{i:Nat × BMap//i.1≤ops.length∧MapOk (ops.take i.1) i.2}=>[(3,.map (some mb)),(10,.slice a ops.length c),(11,.int .i64 (ops.length:Nat)),(12,.int .i64 (i.1.1:Nat))])
  (fun i=>[A,mapP strV opV mb i.1.2]++R) (fun i=>ops.length-i.1.1) ⟨(0,[]),Nat.zero_le _,MapOk.nil⟩ xB (xN) (fun ⟨(i,m),hi,hm⟩=>?_)
 dsimp only at hi hm ⊢
 by_cases hlt:i<ops.length
 ·have ql:decide ((i:Int)<(ops.length:Nat))=true:=decide_eq_true (by omega)
  obtain ⟨o,ho⟩:∃ s,ops[i]? = some s:=⟨_,List.getElem?_eq_getElem hlt⟩
  refine KJ.lvSome hL xS (by omega) (fun b of hab=>?_)
  subst hab
  have hoff:of+Int.toNat (i:Int)*3=of+i*3:=by simp
  have hm2:MapOk (ops.take (i+1)) (mput m o.key o.nrm):=by
   rw [List.take_add_one,ho];exact hm.put o
  obtain ⟨del,key,val⟩:=o
  cases del with
  |true=>
   repeat' (first|(refine zBc ?_;refine zAu rfl (fun g5=>?_))|(refine is_mapUpdate ?_;refine KJ_mapUpdate (v:=(⟨true,key,[]⟩:BOp)) ky_key rfl rfl rfl xS ?_)|(refine zAm ?_;refine zAb (zBn zCa hL rfl rfl xS hoff ho) ?_)|(refine zBh ?_;refine zAb (zAi (r:=((i+1:Nat):Int)) rfl rfl (by omega) (by omega)) ?_)|(refine zAq ?_;refine zAb (zAe rfl rfl ql) ?_)|refine xst ?_|(refine xsa ?_;intro _)|(refine xsb ?_ ?_ <;>intro _<;>try (exfalso;omega))|refine xsc ?_|fail)
   all_goals refine zAv ⟨(i+1,mput m key ⟨true,key,[]⟩),hlt,hm2⟩ (by show ops.length-(i+1)<ops.length-i;omega) xB (xN)
  |false=>
   repeat' (first|(refine zBc ?_;refine zAu rfl (fun g5=>?_))|(refine is_mapUpdate ?_;refine KJ_mapUpdate (v:=(⟨false,key,val⟩:BOp)) ky_key rfl rfl rfl xS ?_)|(refine zAm ?_;refine zAb (zBn zCa hL rfl rfl xS hoff ho) ?_)|(refine zBh ?_;refine zAb (zAi (r:=((i+1:Nat):Int)) rfl rfl (by omega) (by omega)) ?_)|(refine zAq ?_;refine zAb (zAe rfl rfl ql) ?_)|refine xst ?_|(refine xsa ?_;intro _)|(refine xsb ?_ ?_ <;>intro _<;>try (exfalso;omega))|refine xsc ?_|fail)
   all_goals refine zAv ⟨(i+1,mput m key ⟨false,key,val⟩),hlt,hm2⟩ (by show ops.length-(i+1)<ops.length-i;omega) xB (xN)
 have ql:decide ((i:Int)<(ops.length:Nat))=false:=decide_eq_false (by omega)
 rw [List.take_of_length_le (by omega)] at hm
 have htl:=hm.len
 repeat' (first|(refine zBc ?_;refine zAu rfl (fun gl=>?_))|(refine is_range ?_;refine KJ_rangeMap rfl xS rfl (fun it=>?_))|(refine zAq ?_;refine zAb (zAe rfl rfl ql) ?_)|refine xst ?_|(refine xsa ?_;intro _)|(refine xsb ?_ ?_ <;>intro _<;>try (exfalso;omega))|refine xsc ?_|fail)
 refine KJ.nilrow 49 3 ?_
 refine zBv (fun _:{s:List BOp × BMap × Option (List UInt8 × BOp) × Option Addr × Nat//(s.1++s.2.1.map (·.2)).Perm (m.map (·.2))∧(s.2.1.map (·.1)).Nodup}=>[(6,.pointer (some ⟨gl,0,none⟩)),(25,.pointer (some ⟨it,0,none⟩))])
  (fun i=>[iterP strV opV mb it m i.1.2.1 i.1.2.2.1,zAh gl [.slice i.1.2.2.2.1 i.1.1.length i.1.2.2.2.2] 43,lsP opC 49 3 (.slice i.1.2.2.2.1 i.1.1.length i.1.2.2.2.2) i.1.1,A]++R)
  (fun i=>i.1.2.1.length) ⟨([],m,none,none,0),by simp,hm.1⟩ xB (xN) (fun ⟨(l,left,cur,a2,c2),hp,hn⟩=>?_)
 dsimp only at hp hn ⊢
 have hlen:=hp.length_eq
 simp only [List.length_append,List.length_map] at hlen
 have hso:=sort_op (W:=W) gl 43 l (by omega) (.slice a2 l.length c2)
 have hlp:∀ p,p ∈ left→(l.length+1)*40≤140737488355328∧l.length+1≤9223372036854775807:=fun p h=>by
  have:=List.length_pos_of_mem h
  omega
 repeat' (first|(refine zAd ?_;refine zAc xE hso xP rfl (fun x=>?_))|(refine zBq ?_;refine zCe (a:=p.2) zCa rfl rfl rfl xS xS (hlp p hpm).1 (hlp p hpm).2 rfl (fun g' c'=>?_))|(refine zBi ?_;refine zBt rfl xF (by rfl) (by omega) rfl (fun gb=>?_))|(refine is_next ?_;refine KJ_nextMap (ty:=0) ky_key rfl xS rfl rfl (fun hz=>?_) (fun p hpm=>?_))|(refine ek_mkFunc ?_;refine zAb (Ev_mkFunc (us:=[]) (vs:=[.pointer (some ⟨gl,0,none⟩)]) xE xE rfl) ?_)|(refine ek_entry ?_;refine zAb (Ev_entry rfl xS) ?_)|refine xst ?_|(refine xsa ?_;intro _)|(refine xsb ?_ ?_ <;>intro _<;>try (exfalso;omega))|refine xsc ?_|fail)
 ·subst hz
  obtain ⟨l',hp',hs'⟩:=x
  dsimp only
  rw [List.map_nil,List.append_nil] at hp
  obtain rfl:l'=zBy ops:=hm.norm (hp'.trans hp) hs'
  rw [← hp'.length_eq]
  (exact xdn (a2,c2))
 ·refine zAv ⟨(l++[p.2],left.filter (fun q=>decide (q.1≠p.1)),some p,some ⟨g',0,none⟩,c'),?_,?_⟩ ?_ xB (xN)
  ·have:=(perm_pickB hn hpm).map (·.2)
   rw [List.append_assoc]
   exact (List.Perm.append_left l this).trans hp
  ·exact (List.filter_sublist.map _).nodup hn
  ·have:=(perm_pickB hn hpm).length_eq
   show (left.filter (fun q=>decide (q.1≠p.1))).length<left.length
   simp only [List.length_cons] at this
   omega
end
end Go.Proofs.YtgipenahkmbelaaGreatDoor
