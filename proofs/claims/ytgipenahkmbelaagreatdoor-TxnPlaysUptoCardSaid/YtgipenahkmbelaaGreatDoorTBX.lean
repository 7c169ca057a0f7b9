/-
  Mor3, Mor4, Mor5.
-/
import Derived.Test.YtgipenahkmbelaaGreatDoorTBD
import Derived.Lib.AppendStr
set_option maxHeartbeats 64000000
namespace Go.Proofs.YtgipenahkmbelaaGreatDoor
open Go Go.RowKit
def packP {α:Type} (tag key:Nat) (F:α→List SP):SP:=⟨tag,key,fun h=>∃ a,zAj (F a) h⟩
theorem pack_star {α:Type} {tag key:Nat} {F:α→List SP} {H:List SP} (a:α):∀ g,zAj (F a++H) g→zAj (packP tag key F::H) g:=by
 intro g q
 obtain ⟨h1,h2,d,l1,l2,s1,s2⟩:=(zBp g).1 q
 exact ⟨h1,h2,d,l1,l2,⟨a,s1⟩,s2⟩
theorem unpack_star {α:Type} {tag key:Nat} {F:α→List SP} {H:List SP} {g:Hl} (q:zAj (packP tag key F::H) g):∃ a,zAj (F a++H) g:=by
 obtain ⟨h1,h2,d,l1,l2,⟨a,s1⟩,s2⟩:=q
 exact ⟨a,(zBp g).2 ⟨h1,h2,d,l1,l2,s1,s2⟩⟩
theorem St.unpack {W w:World} {α:Type} {tag key:Nat} {F:α→List SP} {H:List SP} (s:St W (packP tag key F::H) w):∃ a,St W (F a++H) w:=by
 obtain ⟨h,q,l⟩:=s.own
 obtain ⟨a,q⟩:=unpack_star q
 exact ⟨a,s.below,h,q,l⟩
theorem KJ.unpack {W:World} {n:Nat} {k:KK} {E:Env} {α:Type} {tag key:Nat} {F:α→List SP} {H:List SP} (h:∀ a,KJ W n k E (F a++H)):KJ W n k E (packP tag key F::H):=
 ⟨fun a w p s=>by
  obtain ⟨x,s⟩:=(show St W (packP tag key F::(H++dm a.defers)) w from s).unpack
  exact (h x).go a w p (by rw [Sta,List.append_assoc];exact s)⟩
theorem KJ.unpack_at {W:World} {n:Nat} {k:KK} {E:Env} {α:Type} {tag key:Nat} {F:α→List SP} {H R:List SP} (q:Sel (packP tag key F) H R) (h:∀ a,KJ W n k E (F a++R)):KJ W n k E H:=KJ.perm (KJ.unpack h) q.perm
theorem zBm {P:Program} {W:World} {f:FuncId} {args:List Value} {Hs:List SP} {X:Type} {r:X→Value} {H':X→List SP} {α:Type} {tag key:Nat} {F:α→List SP}
 (h:∀ a,Ct P W f args (F a++Hs) r H'):Ct P W f args (packP tag key F::Hs) r H':=
 ⟨fun R w s=>by obtain ⟨x,s⟩:=(show St W (packP tag key F::(Hs++R)) w from s).unpack;exact (h x).go R w (by simpa using s)⟩
theorem strCells_bvs (l:List UInt8):Lib.strCells ⟨l.toArray⟩=bvs l:=by simp [Lib.strCells,bvs,bv]
theorem append_str_at {P:Program} (w:World) (base:Nat) (t u ty e:TypeId) (i:TypeInfo) (ht:P.underlying t=some (.slice e)) (hu:P.underlying u=some .string) (hi:P.info? e=some i) (z:Value) (hz:i.zero=some z) (hzc:z.cells=#[.int .u8 0])
 (hsize:i.size=1) (hby:i.bytes=1) (v:Value) (n:Nat) (xs:List Value) (hown:w.ownsRow base e 1 v n xs) (l:List UInt8) (hne:l≠[]∨v.ownBlock.isSome=true)
 (hbytes:n+l.length≤140737488355328) (hbase:base≤w.heap.size) :
 ∃ g c w',(Builtin.append_ #[t,u] ty #[v,strV l]).run P w=.ok (.slice (some ⟨g,0,none⟩) (n+l.length) c) w'∧w'.ownsRow base e 1 (.slice (some ⟨g,0,none⟩) (n+l.length) c) (n+l.length) (xs++bvs l)∧w.grownBy w' v.ownBlock∧(v.ownBlock=some g∨g=w.heap.size):=by
 have hb':n+(⟨l.toArray⟩:ByteArray).size≤140737488355328:=hbytes
 have hss:(⟨l.toArray⟩:ByteArray).size=l.length:=rfl
 have hxl:xs.length=n:=by simpa using hown.1
 have h63:n+l.length≤maxLen:=by unfold maxLen;omega
 have hlen:(xs++bvs l).length=(n+l.length)*1:=by rw [List.length_append,hxl,bvs_length',Nat.mul_one]
 have grown:∀ (old:Nat),old<n+l.length→∀ (row:Option Nat),
  (w.drew.alloc (.cells (xs.toArray++(bvs l).toArray++Builtin.zeroCells z.cells (grownCap w (n+l.length) old e-(n+l.length))) e)).ownsRow base e 1
   (.slice (some ⟨w.heap.size,0,none⟩) (n+l.length) (grownCap w (n+l.length) old e)) (n+l.length) (xs++bvs l)∧
  w.grownBy (w.drew.alloc (.cells (xs.toArray++(bvs l).toArray++Builtin.zeroCells z.cells (grownCap w (n+l.length) old e-(n+l.length))) e)) row:=by
  intro old ho row
  have hge:=grownCap_ge w (n+l.length) old e
  have hcm:grownCap w (n+l.length) old e≤maxLen:=grownCap_le_maxLen w (n+l.length) old e h63
  refine ⟨⟨hlen,.inr ⟨w.heap.size,_,_,rfl,hbase,heap_alloc_new w.drew _,hge,hcm,?_,?_⟩⟩,⟨rfl,rfl,rfl,by simp,fun k hk _=>heap_alloc_old w.drew _ hk⟩⟩
  ·have hz1:z.cells.size=1:=by rw [hzc];rfl
   simp only [Array.size_append,List.size_toArray,size_zeroCells,hz1,hxl,bvs_length']
   omega
  ·simp only [Array.toList_append,List.append_assoc]
   rw [← List.append_assoc,← hlen]
   exact List.take_left
 rcases hown.2 with ⟨rfl,rfl⟩|⟨g,cap,cur,rfl,hbg,hg,hnc,hcm,hcs,htake⟩
 ·have hx:xs=[]:=List.eq_nil_of_length_eq_zero hxl
  subst hx
  have hl0:0<l.length:=by
   rcases hne with h|h
   ·exact List.length_pos_iff.2 h
   ·simp [Value.ownBlock] at h
  have hr:=run_append_nil_string (P:=P) w t u ty e i z ht hu hi hz ⟨l.toArray⟩ hl0 (by rw [hss];omega) (by rw [hby,hss];omega)
  have hgr:=grown 0 (by omega) (Value.ownBlock (.slice none 0 0))
  have e1:((⟨l.toArray⟩:ByteArray).data.map fun b=>Value.int .u8 b.toNat)=(bvs l).toArray:=by simp [bvs,bv]
  rw [e1,hss] at hr
  simp only [Nat.zero_add,List.nil_append,Array.empty_append] at hgr ⊢
  exact ⟨_,_,_,hr,hgr.1,hgr.2,.inr rfl⟩
 ·by_cases hroom:n+l.length≤cap
  ·have hcs':cur.size=cap:=by simpa using hcs
   have hr:=Lib.run_append_room_string (P:=P) w t u ty e i ht hu hi hsize g n cap cur hg ⟨l.toArray⟩ (by rw [hss];exact hroom) (by rw [hss];omega)
   rw [strCells_bvs,hss] at hr
   refine ⟨_,_,_,hr,⟨hlen,.inr ⟨g,cap,_,rfl,hbg,setRow_heap w g cur _ e _ hg,hroom,hcm,?_,?_⟩⟩,⟨rfl,rfl,rfl,by simp,fun k _ hk=>setRow_other w g k _ (fun e=>hk (by simp [Value.ownBlock,e]))⟩,.inl rfl⟩
   ·simp only [List.size_toArray,List.length_append,List.length_take,List.length_drop,Array.length_toList,bvs_length']
    omega
   ·have ht':cur.toList.take n=xs:=by simpa using htake
    rw [ht',← hlen]
    exact List.take_left
  ·have holds:∀ j u,xs[j]? = some u→w.cell? ((⟨g,0,none⟩:Addr).add j)=some u:=hown.cells (g:=g) rfl
   have hr:=Lib.run_append_grow_string (P:=P) w t u ty e i z ht hu hi hz ⟨g,0,none⟩ n cap xs (by rw [hsize];simpa using hxl) holds ⟨l.toArray⟩ (by rw [hss];omega) (by rw [hss];omega) (by rw [hby,hss];exact growslice_fits (by omega) (by omega))
   rw [strCells_bvs,hss] at hr
   have hgr:=grown cap (by omega) (Value.ownBlock (.slice (some ⟨g,0,none⟩) n cap))
   exact ⟨_,_,_,hr,hgr.1,hgr.2,.inr rfl⟩
section
variable {P:Program} {W:World} {n:Nat} {E:Env} {H H' R:List SP} {k:KK} {x y z:Operand} {t u e T:TypeId} {b off d m c:Nat}
theorem St.rowStep {w w':World} {v v':Value} {size i j:Nat} {xs ys:List Value} (s:St W H w) (hsel:Sel (rowP v e size i xs) H R) (hown:w'.ownsRow W.heap.size e size v' j ys) (hg:w.grownBy w' v.ownBlock) (hloc:∀ g,v'.ownBlock=some g→v.ownBlock=some g∨g=w.heap.size) :
 St W (rowP v' e size j ys::R) w':=by
 obtain ⟨g1,g2,dj,hA,hH,l1,l2⟩:=(show St W ([rowP v e size i xs]++R) w from s.perm hsel.perm).split
 have hold:∀ gg,v.ownBlock=some gg→∃ o,g1 gg=some o:=by
  intro gg hgg
  obtain ⟨ha,_,_,le,_,⟨_,hd⟩,_⟩:=hA
  rcases hd with ⟨hv0,_⟩|⟨g'',cap',cur',hv0,hh0,_⟩
  ·rw [hv0] at hgg;simp [Value.ownBlock] at hgg
  ·rw [hv0] at hgg;simp [Value.ownBlock] at hgg;subst hgg;exact ⟨_,le _ _ hh0⟩
 have hq3:∀ kk,kk<w.heap.size→g1 kk=none→w'.heap[kk]? = w.heap[kk]?:=by
  intro kk hk hnone
  refine hg.block kk hk (fun e=>?_)
  obtain ⟨o,ho⟩:=hold kk e.symm
  rw [hnone] at ho;cases ho
 rcases hown.2 with ⟨hv,hj⟩|⟨g',cap,cur,hv,hbase,hh,hrest⟩
 ·exact St.join (B:=[rowP v' e size j ys]) (g:=fun _=>none) s.below dj hH l1 l2 (starL_one ⟨hown.1,.inl ⟨hv,hj⟩⟩) hg.os hg.tape hg.output hg.size (fun _ _ q=>by cases q) (fun _ _ q=>by cases q) hq3
 ·refine St.join (B:=[rowP v' e size j ys]) (g:=Hl.one g' (.cells cur e (0,0))) s.below dj hH l1 l2 (starL_one ⟨hown.1,.inr ⟨g',cap,cur,hv,Hl.one_self _ _,hrest⟩⟩) hg.os hg.tape hg.output hg.size ?_ ?_ hq3
  ·intro kk o q;obtain ⟨rfl,rfl⟩:=Hl.one_some q;exact hh
  ·intro kk o q
   obtain ⟨rfl,rfl⟩:=Hl.one_some q
   rcases hloc kk (by rw [hv];rfl) with hl|hl
   ·exact .inl (hold kk hl)
   ·exact .inr (by omega)
theorem KJ_appendStr {v:Value} {i:Nat} {xs:List Value} {l:List UInt8} (hx:Env.ev E x=some v) (hy:Env.ev E y=some (strV l)) [hu:UIs P t (.slice e)] [hstr:UIs P u .string] [hs:SzIs P e 1] [hb:ByIs P e 1] [hz:ZcIs P e [.int .u8 0]] (hsel:Sel (rowP v e 1 i xs) H R)
 (hne:l≠[]∨v.ownBlock.isSome=true) (hbd:i+l.length≤140737488355328) (hn:Nat.blt d n=true)
 (h:∀ g c,KJ W n k ((d,.slice (some ⟨g,0,none⟩) (i+l.length) c)::E) (rowP (.slice (some ⟨g,0,none⟩) (i+l.length) c) e 1 (i+l.length) (xs++bvs l)::R)):KJ W n (.oper P (.call { callee:=.builtin .append,args:=#[x,y],argTypes:=#[t,u] }) (some d) k) E H:=by
 refine ⟨fun a w p s o ho hd=>?_⟩
 replace hsel:=hsel.app (dm a.defers)
 have hz:=hz.h
 have hs:=hs.h
 have hb:=hb.h
 cases hq:P.info? e with
 |none=>simp [hq] at hz
 |some it=>
  simp [hq] at hz hs hb
  obtain ⟨zv,hz1,hz2⟩:=hz
  obtain ⟨g,cc,w',hrun,hown,hgrow,hloc⟩:=append_str_at (P:=P) w W.heap.size t u o.type e it hu.h hstr.h hq zv hz1 (by simpa using hz2) hs hb v i xs (s.row hsel) l hne hbd s.size
  show uponP P o a _ ((execOp a.eval o).run P w)
  have hr2:(execOp a.eval o).run P w=.ok (.value (.slice (some ⟨g,0,none⟩) (i+l.length) cc)) w':=by
   simp only [execOp,ho,resolve,invoke,builtin,Sem.run_bind,Sem.run_pure,Result.andThen_ok,List.map_toArray,List.map_cons,List.map_nil,p.ev hx,p.ev hy,hrun]
  rw [hr2]
  have st:=s.rowStep hsel hown hgrow (fun g' hg'=>by have:g=g':=by simpa [Value.ownBlock] using hg'
                                                     subst this;exact hloc)
  have:=(h g cc).go _ w' (p.put (d:=some d) hn _) st
  rw [← hd] at this
  exact this
theorem Ev_bytesRow {s u:TypeId} {g i:Nat} {l:List UInt8} (hx:Env.ev E x=some (.slice (some ⟨g,0,none⟩) i c)) [hs:UIs P s (.slice e)] [he:UIs P e (.int .u8)] [hd:UIs P u .string] (hsel:Sel (rowP (.slice (some ⟨g,0,none⟩) i c) e 1 i (bvs l)) H R):Ev P W n E H (.convert s u x) (strV l):=
 Ev.mk fun o ho a w p q=>by
  have hrow:=q.row hsel
  have hl:l.length=i:=by have:=hrow.1;rw [bvs_length'] at this;omega
  have hr:=run_convert_bytes_back (P:=P) w s u e ⟨g,0,none⟩ c l hs.h he.h hd.h (fun j hj=>hrow.cells (g:=g) rfl j _ (by simp [bvs,bv,hj]))
  rw [hl] at hr
  simp only [execOp,ho,p.ev hx,Sem.run_bind,hr,Result.andThen_ok,Sem.run_pure]
theorem KJ_bslice0 {m:Nat} [hu:UIs P t (.slice e)] [hs:SzIs P e m] (hn:Nat.blt d n=true)
 (h:∀ g,KJ W n k ((d,.slice (some ⟨g,0,none⟩) 0 0)::E) (rowP (.slice (some ⟨g,0,none⟩) 0 0) e m 0 []::H)):KJ W n (.oper P (.buildSlice t 0 #[]) (some d) k) E H:=by
 refine ⟨fun a w p s o ho hd=>?_⟩
 have hs:=hs.h
 cases hq:P.info? e with
 |none=>simp [hq] at hs
 |some it=>
  show uponP P o a _ ((execOp a.eval o).run P w)
  have hr2:(execOp a.eval o).run P w=.ok (.value (.slice (some ⟨w.heap.size,0,none⟩) 0 0)) (w.alloc (.cells #[] e)):=by
   simp [execOp,ho,Instr.buildSlice,run_underlying hu.h,sizeOf,typeInfo,hq,Instr.fill,newRow,Go.newObj,Sem.run,Result.andThen,Array.eq_empty_of_size_eq_zero (xs:=Array.range 0) (by simp)]
  rw [hr2]
  have st:St W (rowP (.slice (some ⟨w.heap.size,0,none⟩) 0 0) e m 0 []::(H++dm a.defers)) (w.alloc (.cells #[] e)):=
   s.alloc ⟨by simp,.inr ⟨w.heap.size,0,#[],rfl,Hl.one_self _ _,Nat.le_refl _,by unfold maxLen;omega,by simp,by simp⟩⟩
  have:=(h w.heap.size).go _ _ (p.put (d:=some d) hn _) st
  rw [← hd] at this
  exact this
end
end Go.Proofs.YtgipenahkmbelaaGreatDoor
namespace Go.Proofs.YtgipenahkmbelaaGreatDoor
open Go Go.RowKit
section
variable {P:Program} {W:World} {n d:Nat} {E:Env} {H H' R:List SP} {t u e:TypeId} {x y z:Operand} {T:TypeId} {b off:Nat} {k:KK} {q:QQ}
theorem KJ_rest {G:Prop} {K:KK} (Q:KK→Prop) (main:Q K→G) (r:Q K):G:=main r
theorem at_seq_region {id:Nat} {ops:Array Oper} {dr:Bool} {c:Code} (h:KJ W n (.code P (Code.seq (Code.region id ops dr) c) q) E H):KJ W n (.code P (Code.seq (Code.region id ops dr) c) q) E H:=h
theorem zAi {i j r:Int} (hx:Env.ev E x=some (.int .i64 i)) (hy:Env.ev E y=some (.int .i64 j)) (h:i+j=r) (hb:-9223372036854775808≤r∧r≤9223372036854775807):Ev P W n E H (.binOp .add t x y u) (.int .i64 r):=by
 subst h;exact Ev_addI hx hy hb
theorem Ev_subI_v {i j r:Int} (hx:Env.ev E x=some (.int .i64 i)) (hy:Env.ev E y=some (.int .i64 j)) (h:i-j=r) (hb:-9223372036854775808≤r∧r≤9223372036854775807):Ev P W n E H (.binOp .sub t x y u) (.int .i64 r):=by
 subst h;exact Ev_subI hx hy hb
theorem Ev_mulI_v {i j r:Int} (hx:Env.ev E x=some (.int .i64 i)) (hy:Env.ev E y=some (.int .i64 j)) (h:i*j=r) (hb:-9223372036854775808≤r∧r≤9223372036854775807):Ev P W n E H (.binOp .mul t x y u) (.int .i64 r):=by
 subst h;exact Ev_mulI hx hy hb
theorem Ev_eqlS_f {a b:List UInt8} (hx:Env.ev E x=some (strV a)) (hy:Env.ev E y=some (strV b)) (h:a≠b):Ev P W n E H (.binOp .eql t x y u) (.bool false):=by
 have:=Ev_eqlS (P:=P) (W:=W) (n:=n) (E:=E) (H:=H) (t:=t) (u:=u) hx hy
 rw [decide_eq_false h] at this;exact this
theorem Ev_neqS_t {a b:List UInt8} (hx:Env.ev E x=some (strV a)) (hy:Env.ev E y=some (strV b)) (h:a≠b):Ev P W n E H (.binOp .neq t x y u) (.bool true):=by
 have:=Ev_neqS (P:=P) (W:=W) (n:=n) (E:=E) (H:=H) (t:=t) (u:=u) hx hy
 rw [decide_eq_true (by exact h)] at this;exact this
theorem Ev_buildA {ps:List (Nat × Operand)} {pv:List (Nat × Value)} {vs:List Value} (hp:EvP E ps pv) (h:P.built t pv=some vs.toArray):Ev P W n E H (.build t ps.toArray) (.agg vs.toArray):=
 Ev.mk fun o ho a w p _=>by
  have e:(ps.toArray.map fun (i,x)=>(i,a.eval x)).toList=pv:=by
   rw [← hp.map p];simp
  have h1:=run_build (P:=P) w t (ps.toArray.map fun (i,x)=>(i,a.eval x)) vs.toArray (by rw [e];exact h)
  simp only [execOp,ho,Sem.run_bind,h1,Result.andThen_ok,Sem.run_pure]
end
end Go.Proofs.YtgipenahkmbelaaGreatDoor
namespace Go.Proofs.YtgipenahkmbelaaGreatDoor
open Go Go.RowKit
section
variable {P:Program} {W:World} {n:Nat} {E:Env} {H:List SP} {t u:TypeId} {x y:Operand} {kd:IntKind}
theorem Ev_rem_w {i j r:Int} (hx:Env.ev E x=some (.int kd i)) (hy:Env.ev E y=some (.int kd j)) (hb:0≤i∧0<j) (h:i % j=r):Ev P W n E H (.binOp .rem t x y u) (.int kd r):=by subst h;exact Ev_remI hx hy hb
theorem Ev_add_w {i j r:Int} (hx:Env.ev E x=some (.int kd i)) (hy:Env.ev E y=some (.int kd j)) (h:kd.wrap (i+j)=r):Ev P W n E H (.binOp .add t x y u) (.int kd r):=by subst h;exact Ev_add hx hy
theorem Ev_quo_w {i j r:Int} (hx:Env.ev E x=some (.int .i64 i)) (hy:Env.ev E y=some (.int .i64 j)) (hb:0≤i∧i≤9223372036854775807∧0<j) (h:i / j=r):Ev P W n E H (.binOp .quo t x y u) (.int .i64 r):=by
 subst h;exact Ev_quoI hx hy hb
theorem Ev_max_w {i j m:Int} {ts:Array TypeId} (hx:Env.ev E x=some (.int kd i)) (hy:Env.ev E y=some (.int kd j)) (h:max i j=m):Ev P W n E H (.call { callee:=.builtin .max,args:=#[x,y],argTypes:=ts }) (.int kd m):=by subst h;exact Ev_max hx hy
theorem Ev_or_w {i j r:Int} (hx:Env.ev E x=some (.int kd i)) (hy:Env.ev E y=some (.int kd j)) (h:bits .or kd i j=r):Ev P W n E H (.binOp .or t x y u) (.int kd r):=by subst h;exact Ev_or hx hy
end
end Go.Proofs.YtgipenahkmbelaaGreatDoor
