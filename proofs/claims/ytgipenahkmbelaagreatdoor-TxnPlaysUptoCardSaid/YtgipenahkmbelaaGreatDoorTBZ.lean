/-
  Jou0, Jou1.
-/
import Derived.Test.YtgipenahkmbelaaGreatDoorTBX
import Derived.Deep.Upon
import Derived.Great.BuildSlice
import Derived.Test.YtgipenahkmbelaaGreatDoorTBS
set_option maxHeartbeats 64000000
namespace Go.Proofs.YtgipenahkmbelaaGreatDoor
open Go Go.RowKit
abbrev plTBZ0:Pl:=(.op 0 (.op 1 (.op 2 .nil)))
abbrev plTBZ1:Pl:=(.op 0 (.op 1 (.op 2 (.op 3 (.op 4 (.op 5 (.op 6 (.op 7 (.op 8 (.op 9 (.op 10 (.op 11 (.op 12 (.ef 13 [10,9] (.op 14 (.op 15 (.op 16 (.op 17 (.op 18 (.op 19 (.op 20 (.op 22 (.op 23 (.ef 21 [23,22,18,17] (.op 24 (.op 25 (.op 26 (.op 27 (.op 28 (.op 29 (.op 30 (.op 31 (.op 32 (.op 33 (.op 34 (.op 35 (.op 36 (.op 37 (.op 38 (.op 39 (.op 40 (.op 41 .nil))))))))))))))))))))))))))))))))))))))))))
abbrev plTBZ2:Pl:=(.op 0 (.op 1 (.ef 2 [0] (.op 3 (.ef 4 [] (.op 5 (.op 6 .nil)))))))
abbrev plTBZ3:Pl:=(.op 0 (.op 1 (.op 2 (.op 3 (.op 4 (.op 5 (.op 6 (.op 7 (.op 8 (.op 9 (.op 10 (.op 11 (.op 12 (.op 13 (.op 14 (.op 15 (.op 16 (.op 17 (.op 18 .nil)))))))))))))))))))
abbrev plTBZ4:Pl:=(.op 0 (.op 1 (.op 2 (.op 3 (.op 4 (.op 5 (.op 6 (.op 7 (.op 8 (.op 9 (.op 10 (.op 11 (.op 12 (.op 13 (.op 14 (.op 15 (.op 16 (.op 17 .nil))))))))))))))))))
def bufOk (o:Option Obj) (n c:Nat) (l:List UInt8) (e:TypeId):Prop:=
 ∃ cur lo hi,o=some (.cells cur e (lo,hi))∧(hi≤lo∨cur.size≤lo)∧l.length=n∧n≤c∧cur.size=c∧cur.toList.take n=bvs l
def bufP (g n c:Nat) (l:List UInt8) (e:TypeId):SP:=⟨9,g,fun h=>bufOk (h g) n c l e⟩
theorem bufP_up {g n c:Nat} {l:List UInt8} {e:TypeId}:∀ h k,Hl.le h k→(bufP g n c l e).ok h→(bufP g n c l e).ok k:=fun _ _ le ⟨cur,lo,hi,q,r⟩=>⟨cur,lo,hi,le _ _ q,r⟩
theorem lay_cons (cs:List Value) (o:Nat) (v:Value) (vs:List Value) (h:o<cs.length):lay (cs.set o v) (o+1) vs=lay cs o (v::vs):=by
 have e:=List.set_eq_take_append_cons_drop (l:=cs) (i:=o) (a:=v)
 rw [if_pos h] at e
 have hl:(cs.take o).length=o:=by rw [List.length_take];omega
 have t1:(cs.set o v).take (o+1)=cs.take o++[v]:=by
  rw [e,List.take_append,List.take_of_length_le (by omega),hl,show o+1-o=1 by omega]
  rfl
 have t2:(cs.set o v).drop (o+1+vs.length)=cs.drop (o+(vs.length+1)):=by
  rw [List.drop_set_of_lt (by omega)]
  congr 1
  omega
 unfold lay
 rw [t1,t2]
 simp
theorem setCells_heap (b:Nat) (T:TypeId) (fz:Nat × Nat):∀ (vs:List Value) (o:Nat) (cs:List Value) (w:World),w.heap[b]? = some (.cells cs.toArray T fz)→o+vs.length≤cs.length→
 (w.setCells b o vs).heap[b]? = some (.cells (lay cs o vs).toArray T fz)∧(∀ k,k≠b→(w.setCells b o vs).heap[k]? = w.heap[k]?)∧(w.setCells b o vs).os=w.os∧(w.setCells b o vs).tape=w.tape∧(w.setCells b o vs).output=w.output∧(w.setCells b o vs).heap.size=w.heap.size:=by
 intro vs
 induction vs with
 |nil=>intro o cs w h _;rw [lay_nil];exact ⟨h,fun _ _=>rfl,rfl,rfl,rfl,rfl⟩
 |cons v vs ih=>
  intro o cs w h hl
  rw [List.length_cons] at hl
  have hh:(w.setCell ⟨b,o,none⟩ v).heap[b]? = some (.cells (cs.set o v).toArray T fz):=by
   rw [setCell_eq_setRow w b o _ _ _ v h,setRow_heap w b _ _ _ _ h]
   simp
  obtain ⟨i1,i2,i3,i4,i5,i6⟩:=ih (o+1) (cs.set o v) (w.setCell ⟨b,o,none⟩ v) hh (by rw [List.length_set];omega)
  rw [lay_cons _ _ _ _ (by omega)] at i1
  exact ⟨i1,fun k hk=>(i2 k hk).trans (heap_setCell_other w ⟨b,o,none⟩ k v hk),i3,i4,i5,i6.trans (by simp [World.setCell])⟩
section
variable {P:Program} {W:World} {n d:Nat} {E:Env} {H H' R:List SP} {s t u e:TypeId} {x y:Operand} {k:KK} {T:TypeId} {b off:Nat}
theorem Ev_shr_w {kd yk:IntKind} {i j r:Int} (hx:Env.ev E x=some (.int kd i)) (hy:Env.ev E y=some (.int yk j)) (hj:0≤j) (h:i.fdiv (2 ^ (min j.toNat kd.bits))=r):Ev P W n E H (.binOp .shr t x y u) (.int kd r):=by subst h;exact Ev_shr hx hy hj
theorem Ev_shl_w {kd yk:IntKind} {i j r:Int} (hx:Env.ev E x=some (.int kd i)) (hy:Env.ev E y=some (.int yk j)) (hj:0≤j) (h:kd.wrap (i*2 ^ (min j.toNat kd.bits))=r):Ev P W n E H (.binOp .shl t x y u) (.int kd r):=by subst h;exact Ev_shl hx hy hj
theorem KJ.toRow {g m size:Nat} {vs:List Value} (hs:Sel (zAh g vs e) H R) (hl:vs.length=m*size) (hm:m≤maxLen) (h:KJ W n k E (rowP (.slice (some ⟨g,0,none⟩) m m) e size m vs::R)):KJ W n k E H:=
 ⟨fun a w q s=>h.go a w q ((s.perm (hs.app _).perm).mono fun g' ⟨h1,h2,dj,l1,l2,a1,a2⟩=>⟨h1,h2,dj,l1,l2,⟨hl,.inr ⟨g,m,vs.toArray,rfl,a1,Nat.le_refl _,hm,by simpa using hl,by rw [← hl];simp⟩⟩,a2⟩)⟩
theorem KJ_bytes5 {x0 x1 x2 x3 x4:Operand} {v0 v1 v2 v3 v4:UInt8} (h0:Env.ev E x0=some (.int .u8 (v0.toNat:Int))) (h1:Env.ev E x1=some (.int .u8 (v1.toNat:Int))) (h2:Env.ev E x2=some (.int .u8 (v2.toNat:Int))) (h3:Env.ev E x3=some (.int .u8 (v3.toNat:Int))) (h4:Env.ev E x4=some (.int .u8 (v4.toNat:Int)))
 [hu:UIs P t (.slice e)] [hs:SzIs P e 1] {zs:List Value} [hz:ZcIs P e zs] (hn:Nat.blt d n=true) (h:∀ g,KJ W n k ((d,.slice (some ⟨g,0,none⟩) 5 5)::E) (zAh g (bvs [v0,v1,v2,v3,v4]) e::H)) :
 KJ W n (.oper P (.buildSlice t 5 #[(0,x0),(1,x1),(2,x2),(3,x3),(4,x4)]) (some d) k) E H:=by
 refine ⟨fun a w p s o ho hd=>?_⟩
 have hz:=hz.h
 have hs:=hs.h
 cases hq:P.info? e with
 |none=>simp [hq] at hz
 |some it=>
  simp [hq] at hz hs
  obtain ⟨zv,hz1,hz2⟩:=hz
  have hf:Instr.fill (fun i=>some (i*it.size,it.size)) ((Array.range (5*it.size)).map (zv.cells[· % zv.cells.size]!)) [(0,bv v0),(1,bv v1),(2,bv v2),(3,bv v3),(4,bv v4)]=some (bvs [v0,v1,v2,v3,v4]).toArray:=by
   rw [hs]
   exact Great.fill_flat (bvs [v0,v1,v2,v3,v4]) _ (fun v hv=>by obtain ⟨c,_,rfl⟩:=List.mem_map.1 hv;rfl) (by simp [bvs])
  have hr:=run_buildSlice (P:=P) w t e 5 #[(0,bv v0),(1,bv v1),(2,bv v2),(3,bv v3),(4,bv v4)] _ it zv hu.h hq hz1 (by rw [hs];omega) (by rw [hs];omega) hf
  show uponP P o a _ ((execOp a.eval o).run P w)
  have hr2:(execOp a.eval o).run P w=.ok (.value (.slice (some ⟨w.heap.size,0,none⟩) 5 5)) (w.alloc (.cells (bvs [v0,v1,v2,v3,v4]).toArray e)):=by
   simp only [bv] at hr
   simp only [execOp,ho,List.map_toArray,List.map_cons,List.map_nil,p.ev h0,p.ev h1,p.ev h2,p.ev h3,p.ev h4,Sem.run_bind,Sem.run_pure,Result.andThen_ok,hr]
  rw [hr2]
  have:=(h w.heap.size).go _ _ (p.put (d:=some d) hn _) s.new
  rw [← hd] at this
  exact this
theorem KJ_bufOf {l:List UInt8} (hx:Env.ev E x=some (strV l)) [hs:UIs P s .string] [ht:UIs P t (.slice e)] [he:UIs P e (.int .u8)] (hn:Nat.blt d n=true)
 (h:∀ g c,KJ W n k ((d,.slice (some ⟨g,0,none⟩) l.length c)::E) (bufP g l.length c l e::H)):KJ W n (.oper P (.convert s t x) (some d) k) E H:=by
 refine ⟨fun a w p q o ho hd=>?_⟩
 have hr:=run_bytes_of_string w s t e ⟨l.toArray⟩ hs.h ht.h he.h
 obtain ⟨c,hc⟩:∃ c,c=grownCap w (⟨l.toArray⟩:ByteArray).size 0 e:=⟨_,rfl⟩
 have hge:l.length≤c:=by rw [hc];exact grownCap_ge w _ 0 e
 rw [← hc] at hr
 obtain ⟨cs,hcs⟩:∃ cs:List Value,cs=bvs l++List.replicate (c-l.length) (.int .u8 0):=⟨_,rfl⟩
 have hrow:bytesRow ⟨l.toArray⟩ c=cs.toArray:=by
  rw [hcs]
  unfold bytesRow
  apply Array.ext'
  simp [bvs,bv,ByteArray.size]
 have hcl:cs.length=c:=by rw [hcs];simp [bvs];omega
 rw [hrow] at hr
 show uponP P o a _ ((execOp a.eval o).run P w)
 have e2:(execOp a.eval o).run P w=.ok (.value (.slice (some ⟨w.heap.size,0,none⟩) l.length c)) (w.drew.alloc (.cells cs.toArray e (cs.length,cs.length+1))):=by
  have e3:(convert s t (strV l)).run P w=.ok (.slice (some ⟨w.heap.size,0,none⟩) l.length c) (w.drew.alloc (.cells cs.toArray e (cs.length,cs.length+1))):=by
   have:=hr
   simpa [strV,ByteArray.size] using this
  simp only [execOp,ho,p.ev hx,Sem.run_bind,e3,Result.andThen_ok,Sem.run_pure]
 rw [e2]
 have st:St W (bufP w.heap.size l.length c l e::(H++dm a.defers)) (w.drew.alloc (.cells cs.toArray e (cs.length,cs.length+1))):=by
  refine St.act (A:=[]) (B:=[bufP w.heap.size l.length c l e]) (H:=H++dm a.defers) q rfl rfl rfl (by show w.heap.size≤(w.heap.push _).size;simp) ?_
  intro h1 _ _
  refine ⟨Hl.one w.heap.size (.cells cs.toArray e (cs.length,cs.length+1)),starL_one ⟨cs.toArray,cs.length,cs.length+1,Hl.one_self _ _,.inr (by simp),rfl,hge,by simpa using hcl,?_⟩,fun k x hx=>?_,fun k x hx=>?_,fun k hk _=>Below.heap_alloc _ _ _ hk⟩
  ·rw [hcs]
   show (bvs l++_).take l.length=_
   rw [List.take_left' (bvs_length' l)]
  ·obtain ⟨rfl,rfl⟩:=Hl.one_some hx;exact heap_alloc_new w.drew _
  ·obtain ⟨rfl,rfl⟩:=Hl.one_some hx;exact .inr (Nat.le_refl _)
 have:=(h w.heap.size c).go _ _ (p.put (d:=some d) hn _) st
 rw [← hd] at this
 exact this
theorem St.buf {w:World} {g m c:Nat} {l:List UInt8} (q:St W H w) (hs:Sel (bufP g m c l e) H R):bufOk w.heap[g]? m c l e:=by
 obtain ⟨h,⟨cur,lo,hi,q1,r⟩,ls⟩:=q.sel hs bufP_up
 exact ⟨cur,lo,hi,(ls _ _ q1).2,r⟩
theorem Ev_bytesBuf {g m c:Nat} {l:List UInt8} (hx:Env.ev E x=some (.slice (some ⟨g,0,none⟩) m c)) [hs:UIs P s (.slice e)] [he:UIs P e (.int .u8)] [hd:UIs P u .string] (hsel:Sel (bufP g m c l e) H R):Ev P W n E H (.convert s u x) (strV l):=
 Ev.mk fun o ho a w p q=>by
  obtain ⟨cur,lo,hi,hh,_,hm,hmc,hsz,htk⟩:=q.buf hsel
  subst hm
  have hr:=run_convert_bytes_back (P:=P) w s u e ⟨g,0,none⟩ c l hs.h he.h hd.h (fun j hj=>by
   rw [Addr.add_mid,Nat.zero_add,cell_of_row w g j _ _ _ hh]
   have h2:(cur.toList.take l.length)[j]? = some (bv l[j]):=by rw [htk];simp [bvs,hj]
   rw [List.getElem?_take,if_pos hj] at h2
   simpa [bv] using h2)
  simp only [execOp,ho,p.ev hx,Sem.run_bind,hr,Result.andThen_ok,Sem.run_pure]
theorem KJ_appendBuf {g m c:Nat} {l r:List UInt8} (hx:Env.ev E x=some (.slice (some ⟨g,0,none⟩) m c)) (hy:Env.ev E y=some (strV r)) [hu:UIs P t (.slice e)] [hstr:UIs P u .string] [hs:SzIs P e 1] [hb:ByIs P e 1] [hz:ZcIs P e [.int .u8 0]] (hsel:Sel (bufP g m c l e) H R)
 (hbd:m+r.length≤140737488355328) (hn:Nat.blt d n=true)
 (h:∀ g' c',KJ W n k ((d,.slice (some ⟨g',0,none⟩) (m+r.length) c')::E) (bufP g' (m+r.length) c' (l++r) e::R)):KJ W n (.oper P (.call { callee:=.builtin .append,args:=#[x,y],argTypes:=#[t,u] }) (some d) k) E H:=by
 refine ⟨fun a w p q o ho hd=>?_⟩
 replace hsel:=hsel.app (dm a.defers)
 have hz:=hz.h
 have hs:=hs.h
 have hb:=hb.h
 cases hq:P.info? e with
 |none=>simp [hq] at hz
 |some it=>
  simp [hq] at hz hs hb
  obtain ⟨zv,hz1,hz2⟩:=hz
  obtain ⟨cur,lo,hi,hh,hfz,hm,hmc,hsz,htk⟩:=q.buf hsel
  have hcell:∀ j,w.cell? ⟨g,j,none⟩=cur[j]?:=fun j=>cell_of_row w g j _ _ _ hh
  have hsrc:Go.Src P it.size u (strV r) r.length (bvs r) w:=by
   have:=Go.Src.ofString w hstr.h ⟨r.toArray⟩
   rw [hs]
   have e1:byteCells ⟨r.toArray⟩=bvs r:=by simp [byteCells,bvs,bv]
   rw [e1] at this
   exact this
  have hbl:=bvs_length' r
  suffices hw:∃ g' c' w',(Builtin.append_ #[t,u] o.type #[.slice (some ⟨g,0,none⟩) m c,strV r]).run P w=.ok (.slice (some ⟨g',0,none⟩) (m+r.length) c') w'∧St W (bufP g' (m+r.length) c' (l++r) e::(R++dm a.defers)) w' by
   obtain ⟨g',c',w',hrun,st⟩:=hw
   show uponP P o a _ ((execOp a.eval o).run P w)
   have hr2:(execOp a.eval o).run P w=.ok (.value (.slice (some ⟨g',0,none⟩) (m+r.length) c')) w':=by
    simp only [execOp,ho,resolve,invoke,builtin,Sem.run_bind,Sem.run_pure,Result.andThen_ok,List.map_toArray,List.map_cons,List.map_nil,p.ev hx,p.ev hy,hrun]
   rw [hr2]
   have:=(h g' c').go _ w' (p.put (d:=some d) hn _) st
   rw [← hd] at this
   exact this
  have q1:St W ([bufP g m c l e]++(R++dm a.defers)) w:=q.perm hsel.perm
  by_cases hroom:m+r.length≤c
  ·have hrun:=run_append_room_src (P:=P) w t u o.type e it hu.h hq g 0 m c (strV r) r.length (bvs r) hsrc hroom
    (fun j hj=>by rw [hcell,Array.getElem?_eq_getElem (by rw [hs];omega)];rfl)
    (fun j hj=>by simp [World.frozen?,hh];rw [hs];omega)
   rw [hs,Nat.mul_one,Nat.zero_add] at hrun
   obtain ⟨i1,i2,i3,i4,i5,i6⟩:=setCells_heap g e (lo,hi) (bvs r) m cur.toList w (by simpa using hh) (by rw [hbl];simp;omega)
   refine ⟨g,c,_,hrun,?_⟩
   refine St.act (A:=[bufP g m c l e]) (B:=[bufP g (m+r.length) c (l++r) e]) (H:=R++dm a.defers) q1 i3 i4 i5 (by omega) ?_
   intro h1 ⟨h,_,_,le,_,⟨cur2,lo2,hi2,hg2,_⟩,_⟩ ls
   have hlen:(lay cur.toList m (bvs r)).length=cur.size:=by rw [lay_length _ _ _ (by rw [hbl];simp;omega)];simp
   refine ⟨Hl.one g (.cells (lay cur.toList m (bvs r)).toArray e (lo,hi)),starL_one ⟨_,lo,hi,Hl.one_self _ _,?_,?_,hroom,?_,?_⟩,fun k x hx=>?_,fun k x hx=>?_,fun k _ hn=>i2 k ?_⟩
   ·rcases hfz with q|q
    ·exact .inl q
    ·right;simp [hlen];exact q
   ·rw [List.length_append,hm]
   ·simp [hlen];exact hsz
   ·show (lay cur.toList m (bvs r)).take (m+r.length)=_
    unfold lay
    rw [← List.append_assoc,List.take_left' (by rw [List.length_append,List.length_take,hbl];simp;omega),htk]
    simp [bvs]
   ·obtain ⟨rfl,rfl⟩:=Hl.one_some hx;exact i1
   ·obtain ⟨rfl,rfl⟩:=Hl.one_some hx;exact .inl ⟨_,le _ _ hg2⟩
   ·intro e1;subst e1;rw [le _ _ hg2] at hn;cases hn
  ·have hold:(Builtin.firstCells it.size m (.slice (some ⟨g,0,none⟩) m c)).run P w.drew=.ok (bvs l).toArray w.drew:=
    run_firstCells_some w.drew it.size m ⟨g,0,none⟩ m c (bvs l) (by rw [bvs_length',hs];omega) (fun j u hj=>by
     have hj2:j<l.length:=by have:=(List.getElem?_eq_some_iff.1 hj).1;rwa [bvs_length'] at this
     show w.cell? (Addr.add ⟨g,0,none⟩ j)=some u
     rw [Addr.add_mid,Nat.zero_add,hcell]
     rw [← htk,List.getElem?_take,if_pos (by omega)] at hj
     simpa using hj)
   have hrun:=run_append_grow_src (P:=P) w t u o.type e it zv hu.h hq hz1 (some ⟨g,0,none⟩) m c (bvs l) hold (strV r) r.length (bvs r) hsrc (by omega) (by omega) (by rw [hb];exact growslice_fits (by omega) (by omega))
   have hge:=grownCap_ge w (m+r.length) c e
   refine ⟨_,_,_,hrun,?_⟩
   obtain ⟨cs,hcs⟩:∃ cs:List Value,cs=(bvs l++bvs r)++(Builtin.zeroCells zv.cells (grownCap w (m+r.length) c e-(m+r.length))).toList:=⟨_,rfl⟩
   have hzc:(Builtin.zeroCells zv.cells (grownCap w (m+r.length) c e-(m+r.length))).size=grownCap w (m+r.length) c e-(m+r.length):=by
    unfold Builtin.zeroCells
    simp [hz2]
   have hca:(bvs l++bvs r).toArray++Builtin.zeroCells zv.cells (grownCap w (m+r.length) c e-(m+r.length))=cs.toArray:=by
    rw [hcs];apply Array.ext';simp
   rw [hca]
   have hcl:cs.length=grownCap w (m+r.length) c e:=by rw [hcs];simp [bvs,hzc];omega
   refine St.act (A:=[bufP g m c l e]) (B:=[bufP w.heap.size (m+r.length) (grownCap w (m+r.length) c e) (l++r) e]) (H:=R++dm a.defers) q1 rfl rfl rfl (by show w.heap.size≤(w.heap.push _).size;simp) ?_
   intro h1 _ ls
   refine ⟨Hl.one w.heap.size (.cells cs.toArray e),starL_one ⟨_,0,0,Hl.one_self _ _,.inl (Nat.le_refl _),by rw [List.length_append,hm],hge,by simpa using hcl,?_⟩,fun k x hx=>?_,fun k x hx=>?_,fun k hk _=>Below.heap_alloc _ _ _ hk⟩
   ·show cs.take (m+r.length)=_
    rw [hcs,List.take_left' (by rw [List.length_append,bvs_length',bvs_length'];omega)]
    simp [bvs]
   ·obtain ⟨rfl,rfl⟩:=Hl.one_some hx;exact heap_alloc_new w.drew _
   ·obtain ⟨rfl,rfl⟩:=Hl.one_some hx;exact .inr (Nat.le_refl _)
theorem Ev_addSL {a b:List UInt8} (hx:Env.ev E x=some (strV a)) (hy:Env.ev E y=some (strV b)) (hb:a.length+b.length≤9223372036854775807:=by first|omega|(simp only [List.length_append,List.length_cons,List.length_nil];omega)):Ev P W n E H (.binOp .add t x y u) (strV (a++b)):=Ev_addS hx hy hb
end
end Go.Proofs.YtgipenahkmbelaaGreatDoor
namespace Go.Proofs.YtgipenahkmbelaaGreatDoor
open Go Go.RowKit
def costI (b:Int):Int:=if b<0 then 0 else if b≤229 then 1 else 2+(b-230) / 233
def largestI (n:Int):Int:=if n<1 then -1 else IntKind.i64.wrap (229+IntKind.i64.wrap (233*(n-1)))
def stampN (v i:Nat):Nat:=v*1048576+i+1
theorem i64_wrap (x:Int) (h:-9223372036854775808≤x∧x≤9223372036854775807):IntKind.i64.wrap x=x:=by
 have:IntKind.i64.wrap x=if x % 18446744073709551616≥9223372036854775808 then x % 18446744073709551616-18446744073709551616 else x % 18446744073709551616:=by
  simp [IntKind.wrap,IntKind.signed,IntKind.bits]
 rw [this]
 split <;> omega
section
variable {W:World} {E:Nat→Addr} {p g:Nat} {D:Dsk}
theorem cost_ct (b:Int) (hb:b≤9223372036854775807):Ct Tryz.prog W 170 [.int .i64 b] [] (fun _:Unit=>.int .i64 (costI b)) (fun _=>[]):=by
 by_cases h1:b<0
 ·have q1:decide (b<0)=true:=decide_eq_true h1
  rw [show costI b=0 from if_pos h1]
  refine Ct.enter Tryz.func170 rfl Tryz.ntmps170 (by simp) (fun R=>?_)
  repeat' (first|(refine zAq ?_;refine zAb (zAe rfl rfl q1) ?_)|refine xst ?_|(refine xsa ?_;intro _)|(refine xsb ?_ ?_ <;>intro _<;>try (exfalso;omega))|refine xsc ?_|fail)
  all_goals (exact xdn ())
 have q1:decide (b<0)=false:=decide_eq_false h1
 by_cases h2:b≤229
 ·have q2:decide (b≤229)=true:=decide_eq_true h2
  rw [show costI b=1 from (if_neg h1).trans (if_pos h2)]
  refine Ct.enter Tryz.func170 rfl Tryz.ntmps170 (by simp) (fun R=>?_)
  repeat' (first|(refine zAq ?_;refine zAb (zAe rfl rfl q1) ?_)|(refine ek_leq ?_;refine zAb (Ev_leqI_q rfl rfl q2) ?_)|refine xst ?_|(refine xsa ?_;intro _)|(refine xsb ?_ ?_ <;>intro _<;>try (exfalso;omega))|refine xsc ?_|fail)
  all_goals (exact xdn ())
 have q2:decide (b≤229)=false:=decide_eq_false h2
 have e:costI b=2+(b-230) / 233:=(if_neg h1).trans (if_neg h2)
 obtain ⟨q,hq⟩:∃ q,q=(b-230) / 233:=⟨_,rfl⟩
 have hq1:(b-229-1) / 233=q:=by rw [hq,show b-229-1=b-230 by omega]
 rw [e,← hq]
 refine Ct.enter Tryz.func170 rfl Tryz.ntmps170 (by simp) (fun R=>?_)
 repeat' (first|(refine zBh ?_;refine zAb (zAi (r:=2+q) rfl rfl rfl (by omega)) ?_)|(refine ek_quo ?_;first|refine zAb (Ev_quo_w rfl rfl (by omega) hq.symm) ?_|refine zAb (Ev_quo_w rfl rfl (by omega) hq1) ?_)|(refine zAq ?_;refine zAb (zAe rfl rfl q1) ?_)|(refine ek_leq ?_;refine zAb (Ev_leqI_q rfl rfl q2) ?_)|refine xst ?_|(refine xsa ?_;intro _)|(refine xsb ?_ ?_ <;>intro _<;>try (exfalso;omega))|refine xsc ?_|fail)
 all_goals (exact xdn ())
theorem largest_ct (n:Int) (hn:n≤9223372036854775807):Ct Tryz.prog W 169 [.int .i64 n] [] (fun _:Unit=>.int .i64 (largestI n)) (fun _=>[]):=by
 by_cases h1:n<1
 ·have q1:decide (n<1)=true:=decide_eq_true h1
  rw [show largestI n=-1 from if_pos h1]
  refine Ct.enter Tryz.func169 rfl Tryz.ntmps169 (by simp) (fun R=>?_)
  repeat' (first|(refine zAq ?_;refine zAb (zAe rfl rfl q1) ?_)|refine xst ?_|(refine xsa ?_;intro _)|(refine xsb ?_ ?_ <;>intro _<;>try (exfalso;omega))|refine xsc ?_|fail)
  all_goals (exact xdn ())
 have q1:decide (n<1)=false:=decide_eq_false h1
 rw [show largestI n=_ from if_neg h1]
 refine Ct.enter Tryz.func169 rfl Tryz.ntmps169 (by simp) (fun R=>?_)
 repeat' (first|(refine zAq ?_;refine zAb (zAe rfl rfl q1) ?_)|refine xst ?_|(refine xsa ?_;intro _)|(refine xsb ?_ ?_ <;>intro _<;>try (exfalso;omega))|refine xsc ?_|fail)
 all_goals (exact xdn ())
set_option maxRecDepth 100000 in
theorem log_ct (v i:Nat) (hv:1≤v∧v≤1099511627776) (hi:i<65536):Ct Tryz.prog W 173 [.int .i64 (v:Nat),.int .i64 (i:Nat)] [] (fun _:Unit=>.tuple #[.int .u64 (stampN v i:Nat),.nilIface]) (fun _=>[]):=by
 have q1:decide ((v:Int)<1)=false:=decide_eq_false (by omega)
 have q2:decide ((1099511627776:Int)<(v:Int))=false:=decide_eq_false (by omega)
 have q3:decide ((i:Int)<0)=false:=decide_eq_false (by omega)
 have q4:decide ((65536:Int)≤(i:Int))=false:=decide_eq_false (by omega)
 have c1:IntKind.u64.wrap (v:Int)=(v:Int):=u64_of_lt v (by omega)
 have c2:IntKind.u64.wrap (i:Int)=(i:Int):=u64_of_lt i (by omega)
 have c3:IntKind.u64.wrap ((v:Int)*2 ^ (min (20:Int).toNat IntKind.u64.bits))=((v*1048576:Nat):Int):=by
  rw [show (v:Int)*2 ^ (min (20:Int).toNat IntKind.u64.bits)=((v*1048576:Nat):Int) by
   show (v:Int)*2 ^ 20=_
   omega]
  exact u64_of_lt _ (by omega)
 have c4:IntKind.u64.wrap (((v*1048576:Nat):Int)+(i:Int))=((v*1048576+i:Nat):Int):=u64_of_lt (v*1048576+i) (by omega)
 have c5:IntKind.u64.wrap (((v*1048576+i:Nat):Int)+1)=((stampN v i:Nat):Int):=u64_of_lt (v*1048576+i+1) (by omega)
 obtain ⟨a2,ha2⟩:∃ a2,a2=v*1048576+i:=⟨_,rfl⟩
 obtain ⟨a1,ha1⟩:∃ a1,a1=v*1048576:=⟨_,rfl⟩
 obtain ⟨a3,ha3⟩:∃ a3,a3=stampN v i:=⟨_,rfl⟩
 rw [← ha2] at c4 c5
 rw [← ha1] at c3 c4
 rw [← ha3] at c5 ⊢
 clear ha1 ha2 ha3
 refine Ct.enter Tryz.func173 rfl Tryz.ntmps173 (by simp) (fun R=>?_)
 repeat' (first|(refine zBu ?_;first|refine zAb (zAw rfl c2) ?_|refine zAb (zAw rfl c1) ?_)|(refine zBh ?_;first|refine zAb (Ev_add_w rfl rfl c5) ?_|refine zAb (Ev_add_w rfl rfl c4) ?_)|(refine ek_shl ?_;refine zAb (Ev_shl_w rfl rfl (by omega) c3) ?_)|(refine zAq ?_;first|refine zAb (zAe rfl rfl q3) ?_|refine zAb (zAe rfl rfl q1) ?_)|(refine zBf ?_;refine zAb (zAk rfl rfl q2) ?_)|(refine ek_geq ?_;refine zAb (zBk rfl rfl q4) ?_)|refine xst ?_|(refine xsa ?_;intro _)|(refine xsb ?_ ?_ <;>intro _<;>try (exfalso;omega))|refine xsc ?_|(refine zAa (id:=2) plTBZ0 (by kernel_rfl) (by kernel_rfl) ?_)|refine zAp ?_ ?_|refine zAn rfl rfl rfl rfl rfl ?_ ?_|refine zAg ?_ ?_|exact Rech.nil|fail)
 all_goals (exact xdn ())
def logOk (D:Dsk) (at_ n ver:Int):Prop:=0≤at_∧0≤n∧at_≤D.n∧n≤(D.n:Int)-at_∧n≤65536∧1≤ver∧ver≤1099511627776
theorem check_ct (hn:D.n≤65536) (ho:D.off=false) (at_ n ver:Int) (h:logOk D at_ n ver):Ct Tryz.prog W 137 [.agg #[.pointer (some ⟨p,0,none⟩),.int .i64 at_,.int .i64 n,.int .i64 ver]] [DiskP p D] (fun _:Unit=>.nilIface) (fun _=>[DiskP p D]):=by
 obtain ⟨h1,h2,h3,h4,h5,h6,h7⟩:=h
 have q1:decide (at_<0)=false:=decide_eq_false (by omega)
 have q2:decide (n<0)=false:=decide_eq_false (by omega)
 have q3:decide ((D.n:Int)<at_)=false:=decide_eq_false (by omega)
 have q4:decide ((D.n:Int)-at_<n)=false:=decide_eq_false (by omega)
 have q5:decide (65536<n)=false:=decide_eq_false (by omega)
 have q6:decide (ver<1)=false:=decide_eq_false (by omega)
 have q7:decide (1099511627776<ver)=false:=decide_eq_false (by omega)
 have c1:Ct Tryz.prog W 59 [.pointer (some ⟨p,0,none⟩)] [DiskP p D] (fun _:Unit=>.int .i64 D.n) (fun _=>[DiskP p D]):=size_ct
 have c2:Ct Tryz.prog W 60 [.pointer (some ⟨p,0,none⟩)] [DiskP p D] (fun _:Unit=>.bool false) (fun _=>[DiskP p D]):=by rw [← ho];exact off_ct
 refine Ct.enter Tryz.func137 rfl Tryz.ntmps137 (by simp) (fun R=>?_)
 repeat' (first|(refine zBe ?_;refine zBb rfl xF rfl (fun g1=>?_))|(refine zAd ?_;first|(refine zAc xE c2 xP rfl (fun _=>?_))|(refine zAc xE c1 xP rfl (fun _=>?_)))|(refine zAq ?_;first|refine zAb (zAe rfl rfl q6) ?_|refine zAb (zAe rfl rfl q2) ?_|refine zAb (zAe rfl rfl q1) ?_)|(refine zBf ?_;first|refine zAb (zAk rfl rfl q7) ?_|refine zAb (zAk rfl rfl q5) ?_|refine zAb (zAk rfl rfl q4) ?_|refine zAb (zAk rfl rfl q3) ?_)|refine xst ?_|(refine xsa ?_;intro _)|(refine xsb ?_ ?_ <;>intro _<;>try (exfalso;omega))|refine xsc ?_|(refine zAa (id:=1) plTBZ1 (by kernel_rfl) (by kernel_rfl) ?_)|refine zAp ?_ ?_|refine zAn rfl rfl rfl rfl rfl ?_ ?_|refine zAg ?_ ?_|exact Rech.nil|fail)
 all_goals (exact xdn ())
theorem begin_ct (hn:D.n≤65536) (ho:D.off=false) (at_ n ver:Int) (h:logOk D at_ n ver):Ct Tryz.prog W 101 [.pointer (some ⟨p,0,none⟩),.int .i64 at_,.int .i64 n,.int .i64 ver] [DiskP p D] (fun g:Nat=>.tuple #[.pointer (some ⟨g,0,none⟩),.nilIface]) (fun g=>[DiskP p D,zAh g [.pointer (some ⟨p,0,none⟩),.int .i64 at_,.int .i64 n,.int .i64 ver,.int .i64 0,.int .i64 D.life,.bool false] 205]):=by
 have c1:=check_ct (W:=W) (p:=p) hn ho at_ n ver h
 have c2:Ct Tryz.prog W 92 [.pointer (some ⟨p,0,none⟩)] [DiskP p D] (fun _:Unit=>.int .i64 D.life) (fun _=>[DiskP p D]):=life_ct
 refine Ct.enter Tryz.func101 rfl Tryz.ntmps101 (by simp) (fun R=>?_)
 repeat' (first|(refine zBe ?_;refine zBb rfl xF rfl (fun g1=>?_))|(refine zAd ?_;first|(refine zAc xE c2 xP rfl (fun _=>?_))|(refine zAc xE c1 xP rfl (fun _=>?_)))|(refine zAy ?_;refine zAb (zAz xV xW) ?_)|refine xst ?_|(refine xsa ?_;intro _)|(refine xsb ?_ ?_ <;>intro _<;>try (exfalso;omega))|refine xsc ?_|(refine zAa (id:=5) plTBZ2 (by kernel_rfl) (by kernel_rfl) ?_)|refine zAp ?_ ?_|refine zAn rfl rfl rfl rfl rfl ?_ ?_|refine zAg ?_ ?_|exact Rech.nil|fail)
 all_goals (exact xdn g1)
def downB (D:Dsk) (life:Int) (dead:Bool):Bool:=D.off || (decide (D.life≠life) || dead)
theorem down_ct (at_ n ver used life:Int) (dead:Bool):Ct Tryz.prog W 171 [.pointer (some ⟨g,0,none⟩)] [DiskP p D,zAh g [.pointer (some ⟨p,0,none⟩),.int .i64 at_,.int .i64 n,.int .i64 ver,.int .i64 used,.int .i64 life,.bool dead] 205] (fun _:Unit=>.bool (downB D life dead)) (fun _=>[DiskP p D,zAh g [.pointer (some ⟨p,0,none⟩),.int .i64 at_,.int .i64 n,.int .i64 ver,.int .i64 used,.int .i64 life,.bool (downB D life dead)] 205]):=by
 have c1:Ct Tryz.prog W 60 [.pointer (some ⟨p,0,none⟩)] [DiskP p D] (fun _:Unit=>.bool D.off) (fun _=>[DiskP p D]):=off_ct
 have c2:Ct Tryz.prog W 92 [.pointer (some ⟨p,0,none⟩)] [DiskP p D] (fun _:Unit=>.int .i64 D.life) (fun _=>[DiskP p D]):=life_ct
 rcases Bool.eq_false_or_eq_true D.off with ho|ho
 ·have e:downB D life dead=true:=by unfold downB;rw [ho];rfl
  rw [e]
  rw [ho] at c1
  refine Ct.enter Tryz.func171 rfl Tryz.ntmps171 (by simp) (fun R=>?_)
  repeat' (first|(refine is_fo ?_;(refine FO_call (X:=Unit) xE c1 xP rfl ?_))|(refine is_ro ?_;(refine FO_call (X:=Unit) xE c1 xP rfl ?_))|(refine is_fo ?_;(refine FO_callg (X:=Unit) rfl rfl xE c1 xP rfl ?_))|(refine is_ro ?_;(refine FO_callg (X:=Unit) rfl rfl xE c1 xP rfl ?_))|(refine is_fo ?_;(refine FO_call (X:=Unit) xE c2 xP rfl ?_))|(refine is_ro ?_;(refine FO_call (X:=Unit) xE c2 xP rfl ?_))|(refine is_fo ?_;(refine FO_callg (X:=Unit) rfl rfl xE c2 xP rfl ?_))|(refine is_ro ?_;(refine FO_callg (X:=Unit) rfl rfl xE c2 xP rfl ?_))|refine xst ?_|(refine xsa ?_;intro _)|(refine xsb ?_ ?_ <;>intro _<;>try (exfalso;omega))|refine xsc ?_|(refine zAa (id:=1) plTBZ3 (by kernel_rfl) (by kernel_rfl) ?_)|refine zAp ?_ ?_|refine zAn rfl rfl rfl rfl rfl ?_ ?_|refine zAg ?_ ?_|exact Rech.nil|fail)
  all_goals (exact xdn ())
 rw [ho] at c1
 by_cases hl:D.life=life
 ·have e:downB D life dead=dead:=by unfold downB;rw [ho,decide_eq_false (by simpa using hl)];rfl
  rw [e]
  refine Ct.enter Tryz.func171 rfl Tryz.ntmps171 (by simp) (fun R=>?_)
  repeat' (first|(refine zBz ?_;refine zAb (zCh rfl rfl hl) ?_)|(refine is_fo ?_;(refine FO_call (X:=Unit) xE c1 xP rfl ?_))|(refine is_ro ?_;(refine FO_call (X:=Unit) xE c1 xP rfl ?_))|(refine is_fo ?_;(refine FO_callg (X:=Unit) rfl rfl xE c1 xP rfl ?_))|(refine is_ro ?_;(refine FO_callg (X:=Unit) rfl rfl xE c1 xP rfl ?_))|(refine is_fo ?_;(refine FO_call (X:=Unit) xE c2 xP rfl ?_))|(refine is_ro ?_;(refine FO_call (X:=Unit) xE c2 xP rfl ?_))|(refine is_fo ?_;(refine FO_callg (X:=Unit) rfl rfl xE c2 xP rfl ?_))|(refine is_ro ?_;(refine FO_callg (X:=Unit) rfl rfl xE c2 xP rfl ?_))|refine xst ?_|(refine xsa ?_;intro _)|(refine xsb ?_ ?_ <;>intro _<;>try (exfalso;omega))|refine xsc ?_|(refine zAa (id:=1) plTBZ3 (by kernel_rfl) (by kernel_rfl) ?_)|refine zAp ?_ ?_|refine zAn rfl rfl rfl rfl rfl ?_ ?_|refine zAg ?_ ?_|exact Rech.nil|fail)
  all_goals (exact xdn ())
 ·have e:downB D life dead=true:=by unfold downB;rw [ho,decide_eq_true (by simpa using hl)];rfl
  rw [e]
  refine Ct.enter Tryz.func171 rfl Tryz.ntmps171 (by simp) (fun R=>?_)
  repeat' (first|(refine zBz ?_;refine zAb (Ev_neqI_t rfl rfl hl) ?_)|(refine is_fo ?_;(refine FO_call (X:=Unit) xE c1 xP rfl ?_))|(refine is_ro ?_;(refine FO_call (X:=Unit) xE c1 xP rfl ?_))|(refine is_fo ?_;(refine FO_callg (X:=Unit) rfl rfl xE c1 xP rfl ?_))|(refine is_ro ?_;(refine FO_callg (X:=Unit) rfl rfl xE c1 xP rfl ?_))|(refine is_fo ?_;(refine FO_call (X:=Unit) xE c2 xP rfl ?_))|(refine is_ro ?_;(refine FO_call (X:=Unit) xE c2 xP rfl ?_))|(refine is_fo ?_;(refine FO_callg (X:=Unit) rfl rfl xE c2 xP rfl ?_))|(refine is_ro ?_;(refine FO_callg (X:=Unit) rfl rfl xE c2 xP rfl ?_))|refine xst ?_|(refine xsa ?_;intro _)|(refine xsb ?_ ?_ <;>intro _<;>try (exfalso;omega))|refine xsc ?_|(refine zAa (id:=1) plTBZ3 (by kernel_rfl) (by kernel_rfl) ?_)|refine zAp ?_ ?_|refine zAn rfl rfl rfl rfl rfl ?_ ?_|refine zAg ?_ ?_|exact Rech.nil|fail)
  all_goals (exact xdn ())
theorem fits_ct (at_ n ver used life:Int) (dead:Bool) (b:Int) (hb:b≤9223372036854775807) (hn:0≤n∧n≤65536) (hu:0≤used∧used≤65536):Ct Tryz.prog W 124 [.pointer (some ⟨g,0,none⟩),.int .i64 b] [zAh g [.pointer (some ⟨p,0,none⟩),.int .i64 at_,.int .i64 n,.int .i64 ver,.int .i64 used,.int .i64 life,.bool dead] 205] (fun _:Unit=>.bool (decide (0≤b∧costI b≤n-used))) (fun _=>[zAh g [.pointer (some ⟨p,0,none⟩),.int .i64 at_,.int .i64 n,.int .i64 ver,.int .i64 used,.int .i64 life,.bool dead] 205]):=by
 have c1:=cost_ct (W:=W) b hb
 obtain ⟨c,hc⟩:∃ c,c=costI b:=⟨_,rfl⟩
 rw [← hc] at c1 ⊢
 by_cases h1:0≤b
 ·have q1:decide (0≤b)=true:=decide_eq_true h1
  have q2:decide (c≤n-used)=decide (0≤b∧c≤n-used):=by simp [h1]
  refine Ct.enter Tryz.func124 rfl Tryz.ntmps124 (by simp) (fun R=>?_)
  repeat' (first|(refine ek_leq ?_;refine zAb (Ev_leqI_q rfl rfl q2) ?_)|(refine ek_geq ?_;refine zAb (zBk rfl rfl q1) ?_)|(refine is_fo ?_;(refine FO_call (X:=Unit) xE c1 xP rfl ?_))|(refine is_ro ?_;(refine FO_call (X:=Unit) xE c1 xP rfl ?_))|(refine is_fo ?_;(refine FO_callg (X:=Unit) rfl rfl xE c1 xP rfl ?_))|(refine is_ro ?_;(refine FO_callg (X:=Unit) rfl rfl xE c1 xP rfl ?_))|refine xst ?_|(refine xsa ?_;intro _)|(refine xsb ?_ ?_ <;>intro _<;>try (exfalso;omega))|refine xsc ?_|(refine zAa (id:=1) plTBZ4 (by kernel_rfl) (by kernel_rfl) ?_)|refine zAp ?_ ?_|refine zAn rfl rfl rfl rfl rfl ?_ ?_|refine zAg ?_ ?_|exact Rech.nil|fail)
  all_goals (exact xdn ())
 ·have q1:decide (0≤b)=false:=decide_eq_false h1
  rw [show decide (0≤b∧c≤n-used)=false by simp [h1]]
  refine Ct.enter Tryz.func124 rfl Tryz.ntmps124 (by simp) (fun R=>?_)
  repeat' (first|(refine ek_geq ?_;refine zAb (zBk rfl rfl q1) ?_)|refine xst ?_|(refine xsa ?_;intro _)|(refine xsb ?_ ?_ <;>intro _<;>try (exfalso;omega))|refine xsc ?_|(refine zAa (id:=1) plTBZ4 (by kernel_rfl) (by kernel_rfl) ?_)|refine zAp ?_ ?_|refine zAn rfl rfl rfl rfl rfl ?_ ?_|refine zAg ?_ ?_|exact Rech.nil|fail)
  all_goals (exact xdn ())
end
end Go.Proofs.YtgipenahkmbelaaGreatDoor
