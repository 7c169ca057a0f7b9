/-
  More, Wk.
-/
import Derived.Test.YtgipenahkmbelaaGreatDoorTAK
import Derived.Test.YtgipenahkmbelaaGreatDoorTAH
set_option maxHeartbeats 64000000
namespace Go.Proofs.YtgipenahkmbelaaGreatDoor
open Go Go.RowKit
class BuIs (P:Program) (t:TypeId) (zs:outParam (List Value)) (places:outParam (List (Nat × Nat))):Prop where h:∀ parts,P.built t parts=Instr.fill (places.toArray[·]?) zs.toArray parts
inductive EvP (E:Env):List (Nat × Operand)→List (Nat × Value)→Prop
 |nil:EvP E [] []
 |cons {i:Nat} {x:Operand} {v:Value} {ps:List (Nat × Operand)} {vs:List (Nat × Value)}:Env.ev E x=some v→EvP E ps vs→EvP E ((i,x)::ps) ((i,v)::vs)
inductive Fills (places:List (Nat × Nat)):List Value→List (Nat × Value)→List Value→Prop
 |nil {zs:List Value}:Fills places zs [] zs
 |cons {i off m:Nat} {v:Value} {zs zs' ws vs:List Value} {ps:List (Nat × Value)}:places[i]? = some (off,m)→CellsOf v ws→ws.length=m→Laid zs off ws zs'→Fills places zs' ps vs→Fills places zs ((i,v)::ps) vs
theorem xV {E:Env} {ps:List (Nat × Operand)} {pv:List (Nat × Value)} (h:EvP E ps pv:=by (repeat' (first|exact EvP.nil|(apply EvP.cons;exact rfl)));first|done|fail):EvP E ps pv:=h
theorem xW {places:List (Nat × Nat)} {zs vs:List Value} {ps:List (Nat × Value)} (h:Fills places zs ps vs:=by (repeat' (first|exact Fills.nil|(apply Fills.cons;exact rfl;(first|exact CellsOf.agg|exact CellsOf.one rfl);exact rfl;(repeat' (first|exact Laid.nil|apply Laid.cons|apply Laid.skip)))));first|done|fail):Fills places zs ps vs:=h
theorem Fills.fill {places:List (Nat × Nat)} {zs vs:List Value} {ps:List (Nat × Value)} (h:Fills places zs ps vs):Instr.fill (places.toArray[·]?) zs.toArray ps=some vs.toArray:=by
 induction h with
 |nil=>rfl
 |cons hp hv hl hL hf ih=>
  rename_i i off m v zs zs' ws vs ps
  obtain ⟨hfit,rfl⟩:=hL.spec
  have hc:=hv.spec
  unfold Instr.fill
  have hp':places.toArray[i]? = some (off,m):=by simpa using hp
  simp only [hp']
  rw [if_neg (by simp [hc,hl];omega)]
  rw [hc]
  have e:((ws.toArray.zipIdx).foldl (fun cs (x:Value × Nat)=>cs.setIfInBounds (off+x.2) x.1) zs.toArray)=(lay zs off ws).toArray:=by
   rw [← Array.foldl_toList]
   simp only [Array.toList_zipIdx]
   have key:∀ (l:List Value) (k:Nat) (base:Array Value),off+k+l.length≤base.size→((l.zipIdx k).foldl (fun cs (x:Value × Nat)=>cs.setIfInBounds (off+x.2) x.1) base).toList=base.toList.take (off+k)++(l++base.toList.drop (off+k+l.length)):=by
    intro l
    induction l with
    |nil=>intro k base h;simp
    |cons v l ih2=>
     intro k base h
     simp only [List.length_cons] at h
     rw [List.zipIdx_cons,List.foldl_cons,ih2 (k+1) _ (by simp;omega)]
     simp only [Array.toList_setIfInBounds,List.length_cons]
     have e1:(base.toList.set (off+k) v).take (off+(k+1))=base.toList.take (off+k)++[v]:=by
      rw [List.take_set,show off+(k+1)=off+k+1 by omega]
      rw [List.take_succ_eq_append_getElem (by simp;omega),List.set_append_right _ _ (by simp;omega)]
      simp [show min (off+k) base.size=off+k by omega]
     have e2:(base.toList.set (off+k) v).drop (off+(k+1)+l.length)=base.toList.drop (off+k+(l.length+1)):=by
      rw [List.drop_set_of_lt (by omega)]
      congr 1;omega
     rw [e1,e2]
     simp
   have:=key ws 0 zs.toArray (by simpa using hfit)
   rw [← Array.toList_inj]
   simpa [lay] using this
  rw [e]
  exact ih
section
variable {P:Program} {W:World} {n:Nat} {E:Env} {H R:List SP} {k:KK} {x y z:Operand} {t e T:TypeId} {b off d m c:Nat}
theorem EvP.map {a:Act} (p:Hd n E a) {ps:List (Nat × Operand)} {pv:List (Nat × Value)} (h:EvP E ps pv):ps.map (fun (i,x)=>(i,a.eval x))=pv:=by
 induction h with
 |nil=>rfl
 |cons hx _ ih=>simp [p.ev hx,ih]
theorem zAz {ps:List (Nat × Operand)} {pv:List (Nat × Value)} {zs vs:List Value} {places:List (Nat × Nat)} (hp:EvP E ps pv) [hb:BuIs P t zs places] (hf:Fills places zs pv vs):Ev P W n E H (.build t ps.toArray) (.agg vs.toArray):=
 Ev.mk fun o ho a w p _=>by
  have e:(ps.toArray.map fun (i,x)=>(i,a.eval x)).toList=pv:=by
   rw [← hp.map p];simp
  have h1:=run_build (P:=P) w t (ps.toArray.map fun (i,x)=>(i,a.eval x)) vs.toArray (by rw [e,hb.h];exact hf.fill)
  simp only [execOp,ho,Sem.run_bind,h1,Result.andThen_ok,Sem.run_pure]
theorem replicate_bvs (m:Nat):(madeCells #[Value.int .u8 0] m).toList=bvs (List.replicate m 0):=by
 apply List.ext_getElem
 ·simp [madeCells]
 ·intro i h1 h2
  simp [madeCells,bvs,bv,Nat.mod_one]
theorem KJ_makeBytes {C:Int} (hx:Env.ev E x=some (.int .i64 C)) (hy:Env.ev E y=some (.int .i64 C)) [hu:UIs P t (.slice e)] [hs:SzIs P e 1] [hb:ByIs P e 1] [hz:ZcIs P e [.int .u8 0]] (hC:C=(m:Int)) (hm:m≤140737488355328) (hn:Nat.blt d n=true)
 (h:∀ g,KJ W n k ((d,.slice (some ⟨g,0,none⟩) m m)::E) (zAh g (bvs (List.replicate m 0)) e::H)):KJ W n (.oper P (.makeSlice t x y) (some d) k) E H:=by
 refine ⟨fun a w p s o ho hd=>?_⟩
 have hz:=hz.h
 have hs:=hs.h
 have hb:=hb.h
 cases hq:P.info? e with
 |none=>simp [hq] at hz
 |some i=>
  simp [hq] at hz hs hb
  obtain ⟨zv,hz1,hz2⟩:=hz
  obtain ⟨w',h1,h2,h3⟩:=run_make_full (P:=P) w 0 t e i zv 1 hu.h hq hz1 hs .i64 .i64 m (by rw [hb];omega) (by unfold maxLen;omega) (Nat.zero_le _)
  show uponP P o a _ ((execOp a.eval o).run P w)
  have hrun:(execOp a.eval o).run P w=.ok (.value (.slice (some ⟨w.heap.size,0,none⟩) m m)) w':=by
   simp only [execOp,ho,p.ev hx,p.ev hy,hC,Sem.run_bind,h1,Result.andThen_ok,Sem.run_pure]
  rw [hrun]
  have hblk:w'.heap[w.heap.size]? = some (.cells (bvs (List.replicate m 0)).toArray e (0,0)):=by
   rw [hz2] at h2
   rcases h2.2 with ⟨q,_⟩|⟨g,cap,cur,hv,_,hh,_,_,hsz,htk⟩
   ·cases q
   ·cases hv
    rw [hh]
    have:cur.toList=bvs (List.replicate m 0):=by
     rw [← replicate_bvs,← Nat.mul_one m,← htk,List.take_of_length_le (by simp [hsz])]
    rw [← this]
  have st:St W (zAh w.heap.size (bvs (List.replicate m 0)) e::(H++dm a.defers)) w':=by
   obtain ⟨h1',h2',dj,hA,hH,l1,l2⟩:=(show St W ([]++(H++dm a.defers)) w from s).split
   exact St.join (B:=[zAh w.heap.size (bvs (List.replicate m 0)) e]) (g:=Hl.one w.heap.size (.cells (bvs (List.replicate m 0)).toArray e (0,0))) s.below dj hH l1 l2 (starL_one (Hl.one_self _ _)) h3.os h3.tape h3.output h3.size
    (fun k o q=>by obtain ⟨rfl,rfl⟩:=Hl.one_some q;exact hblk) (fun k o q=>by obtain ⟨rfl,rfl⟩:=Hl.one_some q;exact .inr (Nat.le_refl _)) (fun k hk _=>h3.block k hk (by simp))
  have:=(h w.heap.size).go _ w' (p.put (d:=some d) hn _) st
  rw [← hd] at this
  exact this
theorem Ev_bytesStr {s u:TypeId} {l:List UInt8} (hx:Env.ev E x=some (.slice (some ⟨b,off,none⟩) m c)) [hs:UIs P s (.slice e)] [he:UIs P e (.int .u8)] [hd:UIs P u .string] (hs':Sel (zAh b (bvs l) T) H R) (hm:off+m≤l.length):Ev P W n E H (.convert s u x) (strV ((l.drop off).take m)):=
 Ev.mk fun o ho a w p q=>by
  have hlen:((l.drop off).take m).length=m:=by simp;omega
  have hr:=run_convert_bytes_back (P:=P) w s u e ⟨b,off,none⟩ c ((l.drop off).take m) hs.h he.h hd.h (fun j hj=>by
   rw [Addr.add_mid,(q.blk hs').2.cell]
   rw [hlen] at hj
   simp [bvs,bv,show off+j<l.length by omega])
  rw [hlen] at hr
  simp only [execOp,ho,p.ev hx,Sem.run_bind,hr,Result.andThen_ok,Sem.run_pure]
theorem Ev_eqlS_t {u:TypeId} {a b:List UInt8} (hx:Env.ev E x=some (strV a)) (hy:Env.ev E y=some (strV b)) (h:a=b):Ev P W n E H (.binOp .eql t x y u) (.bool true):=by
 have:=Ev_eqlS (P:=P) (W:=W) (n:=n) (E:=E) (H:=H) (t:=t) (u:=u) hx hy
 rw [decide_eq_true h] at this;exact this
theorem Ev_neqS_f {u:TypeId} {a b:List UInt8} (hx:Env.ev E x=some (strV a)) (hy:Env.ev E y=some (strV b)) (h:a=b):Ev P W n E H (.binOp .neq t x y u) (.bool false):=by
 have:=Ev_neqS (P:=P) (W:=W) (n:=n) (E:=E) (H:=H) (t:=t) (u:=u) hx hy
 rw [decide_eq_false (by simpa using h)] at this;exact this
theorem Ev_eqlI_t {u:TypeId} {kd:IntKind} {i j:Int} (hx:Env.ev E x=some (.int kd i)) (hy:Env.ev E y=some (.int kd j)) (h:i=j):Ev P W n E H (.binOp .eql t x y u) (.bool true):=by
 have:=Ev_eqlI (P:=P) (W:=W) (n:=n) (E:=E) (H:=H) (t:=t) (u:=u) hx hy
 rw [decide_eq_true h] at this;exact this
theorem zCh {u:TypeId} {kd:IntKind} {i j:Int} (hx:Env.ev E x=some (.int kd i)) (hy:Env.ev E y=some (.int kd j)) (h:i=j):Ev P W n E H (.binOp .neq t x y u) (.bool false):=by
 have:=Ev_neqI (P:=P) (W:=W) (n:=n) (E:=E) (H:=H) (t:=t) (u:=u) hx hy
 rw [decide_eq_false (by simpa using h)] at this;exact this
structure Src (W:World) (H:List SP) (xa:Option Addr) (news:List Value):Prop where
 go:news≠[]→∃ b o,xa=some ⟨b,o,none⟩∧∀ w,St W H w→w.rangeAt b o news
theorem Src.cells {cs news:List Value} {i:Nat} (hs:Sel (zAh b cs T) H R) (hc:Cut cs off i news):Src W H (some ⟨b,off,none⟩) news:=⟨fun _=>⟨b,off,rfl,fun w q j v hj=>by rw [(q.blk hs).2.cell];exact hc.spec.2 j v hj⟩⟩
theorem Src.old {news:List Value} (hc:W.rangeAt b off news):Src W H (some ⟨b,off,none⟩) news:=⟨fun _=>⟨b,off,rfl,fun _ q=>q.oldRange hc⟩⟩
theorem Src.nil {xa:Option Addr}:Src W H xa []:=⟨fun h=>absurd rfl h⟩
theorem KJ_append {v:Value} {i l size bytes:Nat} {xs news:List Value} {a2 c2:Nat} {xa:Option Addr} (hx:Env.ev E x=some v) (hy:Env.ev E y=some (.slice xa l c2)) [hu:UIs P t (.slice e)] [hs:SzIs P e size] [hb:ByIs P e bytes] {zs:List Value} [hz:ZcIs P e zs] (hsz:zs.length=size) (h0:0<size) (hsel:Sel (rowP v e size i xs) H R)
 (hsrc:Src W H xa news) (hl:news.length=l*size) (hl0:0<l) (h1:Ones news) (h63:(i+l)*bytes≤140737488355328) (h64:i+l≤9223372036854775807) (hn:Nat.blt d n=true) (_ha:a2=a2)
 (h:∀ g c,KJ W n k ((d,.slice (some ⟨g,0,none⟩) (i+l) c)::E) (rowP (.slice (some ⟨g,0,none⟩) (i+l) c) e size (i+l) (xs++news)::R)):KJ W n (.oper P (.call { callee:=.builtin .append,args:=#[x,y],argTypes:=#[t,t] }) (some d) k) E H:=by
 refine ⟨fun a w p s o ho hd=>?_⟩
 have hz:=hz.h
 have hs:=hs.h
 have hb:=hb.h
 replace hsel:=hsel.app (dm a.defers)
 have hrow:=s.row hsel
 have hne:news≠[]:=by intro q;subst q;have:=Nat.mul_pos hl0 h0;simp at hl;omega
 obtain ⟨sb,so,rfl,hrange⟩:=hsrc.go hne
 cases hq:P.info? e with
 |none=>simp [hq] at hz
 |some it=>
  simp [hq] at hz hs hb
  obtain ⟨zv,hz1,hz2⟩:=hz
  obtain ⟨v',w',hrun,hown,hgrow,-,hloc⟩:=run_append_own_at (P:=P) w W.heap.size t o.type e it zv size bytes hu.h hq hz1 hs hb (by rw [hz2];simpa using hsz) h0 v i xs hrow ⟨sb,so,none⟩ l c2 news hl (fun j u hj=>by rw [Addr.add_mid];exact hrange w s.left j u hj) h1.all (by unfold maxLen;omega) h63 s.size
  have hshape:∃ g c,v'=.slice (some ⟨g,0,none⟩) (i+l) c:=by
   rcases hown.2 with ⟨_,q⟩|⟨g,cap,cur,hv,_⟩
   ·omega
   ·exact ⟨g,cap,hv⟩
  obtain ⟨g,cc,rfl⟩:=hshape
  show uponP P o a _ ((execOp a.eval o).run P w)
  have hr2:(execOp a.eval o).run P w=.ok (.value (.slice (some ⟨g,0,none⟩) (i+l) cc)) w':=by
   simp only [execOp,ho,resolve,invoke,builtin,Sem.run_bind,Sem.run_pure,Result.andThen_ok,List.map_toArray,List.map_cons,List.map_nil,p.ev hx,p.ev hy,hrun]
  rw [hr2]
  have st:St W (rowP (.slice (some ⟨g,0,none⟩) (i+l) cc) e size (i+l) (xs++news)::(R++dm a.defers)) w':=by
   obtain ⟨g1,g2,dj,hA,hH,l1,l2⟩:=(show St W ([rowP v e size i xs]++(R++dm a.defers)) w from s.perm hsel.perm).split
   rcases hown.2 with ⟨_,q⟩|⟨g',cap,cur,hv,hbase,hh,hrest⟩
   ·omega
   ·cases hv
    have hold:∀ gg,v.ownBlock=some gg→∃ o,g1 gg=some o:=by
     intro gg hgg
     obtain ⟨ha,_,_,le,_,⟨_,hd⟩,_⟩:=hA
     rcases hd with ⟨hv0,_⟩|⟨g'',cap',cur',hv0,hh0,_⟩
     ·rw [hv0] at hgg;simp [Value.ownBlock] at hgg
     ·rw [hv0] at hgg;simp [Value.ownBlock] at hgg;subst hgg;exact ⟨_,le _ _ hh0⟩
    refine St.join (B:=[rowP (.slice (some ⟨g,0,none⟩) (i+l) cc) e size (i+l) (xs++news)]) (g:=Hl.one g (.cells cur e (0,0))) s.below dj hH l1 l2 (starL_one ⟨hown.1,.inr ⟨g,cc,cur,rfl,Hl.one_self _ _,hrest⟩⟩) hgrow.os hgrow.tape hgrow.output hgrow.size ?_ ?_ ?_
    ·intro kk o q;obtain ⟨rfl,rfl⟩:=Hl.one_some q;exact hh
    ·intro kk o q
     obtain ⟨rfl,rfl⟩:=Hl.one_some q
     rcases hloc with hl|hl
     ·exact .inl (hold kk (by rw [← hl];rfl))
     ·have:kk=w.heap.size:=by simpa [Value.ownBlock] using hl
      exact .inr (by omega)
    ·intro kk hk hnone
     refine hgrow.block kk hk (fun e=>?_)
     obtain ⟨o,ho⟩:=hold kk e.symm
     rw [hnone] at ho;cases ho
  have:=(h g cc).go _ w' (p.put (d:=some d) hn _) st
  rw [← hd] at this
  exact this
theorem Ev_loadRow {g i size:Nat} {xs:List Value} {v:Value} (hx:Env.ev E x=some (.pointer (some ⟨g,off,none⟩))) [hu:ScIs P t] (hs:Sel (rowP (.slice (some ⟨g,0,none⟩) i c) e size i xs) H R) (hv:xs[off]? = some v):Ev P W n E H (.load t x) v:=
 Ev.mk fun o ho a w p q=>by
  obtain ⟨d,hu,hd⟩:=hu.h
  have hr:=q.row hs
  have hc:w.cell? ⟨g,off,none⟩=some v:=by
   have:=hr.cells (g:=g) rfl off v hv
   rwa [Addr.add_mid,Nat.zero_add] at this
  simp [execOp,ho,p.ev hx,run_loadAt_one w hc hu hd,Result.andThen]
theorem zBt {v:Value} {vs:List Value} (hx:Env.ev E x=some v) [hu:UIs P t (.slice e)] [hs:SzIs P e m] {zs:List Value} [hz:ZcIs P e zs] (hv:CellsOf v vs) (hl:vs.length=m) (hm:0<m∧m≤16777216) (hn:Nat.blt d n=true)
 (h:∀ g,KJ W n k ((d,.slice (some ⟨g,0,none⟩) 1 1)::E) (zAh g vs e::H)):KJ W n (.oper P (.buildSlice t 1 #[(0,x)]) (some d) k) E H:=by
 refine ⟨fun a w p s o ho hd=>?_⟩
 have hz:=hz.h
 have hs:=hs.h
 cases hq:P.info? e with
 |none=>simp [hq] at hz
 |some it=>
  simp [hq] at hz hs
  obtain ⟨zv,hz1,hz2⟩:=hz
  have hr:=run_buildSlice_one (P:=P) w t e it zv v hu.h hq hz1 (by rw [hv.spec];simp;omega) (by omega) (by omega)
  show uponP P o a _ ((execOp a.eval o).run P w)
  have hr2:(execOp a.eval o).run P w=.ok (.value (.slice (some ⟨w.heap.size,0,none⟩) 1 1)) (w.alloc (.cells vs.toArray e)):=by
   rw [hv.spec] at hr
   simp only [execOp,ho,List.map_toArray,List.map_cons,List.map_nil,p.ev hx,Sem.run_bind,Sem.run_pure,Result.andThen_ok,hr]
  rw [hr2]
  have:=(h w.heap.size).go _ _ (p.put (d:=some d) hn _) s.new
  rw [← hd] at this
  exact this
end
end Go.Proofs.YtgipenahkmbelaaGreatDoor
namespace Go.Proofs.YtgipenahkmbelaaGreatDoor
open Go Go.RowKit
structure Later (A:Prop):Prop where
 go:A
theorem xst {A G:Prop} (g:A) (h:Later A→G:=by
 intro h
 first
 |(refine KJ_stp (by first|constructor|fail) ?_;exact h.go)
 |(refine is_ek ?_
   first
    |(refine ek_move ?_;first|refine zAb (Ev_move rfl) ?_)
    |(refine ek_assign ?_;first|refine zAb (Ev_assign rfl) ?_)
    |(refine ek_pick ?_;first|refine zAb (Ev_pick_t rfl rfl) ?_|refine zAb (Ev_pick_f rfl rfl) ?_)
    |(refine ek_nilCheck ?_;first|refine zAb (Ev_nilCheck rfl) ?_)
    |(refine ek_fieldAddr ?_;first|refine zAb (Ev_field rfl) ?_)
    |(refine zAm ?_;first|refine zAb (Ev_load rfl xS (by rfl)) ?_|refine zAb (zAt rfl (by assumption)) ?_|refine zAb (Ev_loadAgg rfl xS xC) ?_)
    |(refine ek_un ?_;first|refine zAb (Ev_notD rfl) ?_|refine zAb (Ev_not rfl) ?_|refine zAb (Ev_neg rfl) ?_)
    |(refine zBu ?_;first|refine zAb (Ev_convI64 rfl (by omega)) ?_|refine zAb (Ev_convI rfl) ?_|refine zAb (Ev_convS rfl) ?_)
    |(refine ek_extract ?_;first|refine zAb (Ev_extract rfl rfl) ?_)
    |(refine ek_indexAddr ?_;first|refine zAb (Ev_indexSlice rfl rfl (by omega)) ?_|refine zAb (Ev_indexArr rfl rfl (by omega)) ?_)
    |(refine ek_field ?_;first|refine zAb (Ev_fieldVal rfl rfl) ?_)
    |(refine ek_mkIface ?_;first|refine zAb (Ev_makeIface rfl rfl) ?_)
    |(refine ek_len ?_;first|refine zAb (Ev_len_str rfl) ?_|refine zAb (Ev_len_slice rfl) ?_|refine zAb (Ev_len_arr rfl) ?_|refine zAb (Ev_len_map rfl xS) ?_)
    |(refine ek_min ?_;first|refine zAb (Ev_min rfl rfl) ?_)
    |(refine ek_max ?_;first|refine zAb (Ev_max rfl rfl) ?_)
    |(refine zBh ?_;first|refine zAb (Ev_addI rfl rfl (by omega)) ?_|refine zAb (Ev_addS rfl rfl (by simp <;> omega)) ?_|refine zAb (Ev_add rfl rfl) ?_)
    |(refine ek_sub ?_;first|refine zAb (Ev_subI rfl rfl (by omega)) ?_|refine zAb (Ev_sub rfl rfl) ?_)
    |(refine ek_mul ?_;first|refine zAb (Ev_mulI rfl rfl (by omega)) ?_|refine zAb (Ev_mul rfl rfl) ?_)
    |(refine ek_quo ?_;first|refine zAb (Ev_quoI rfl rfl (by omega)) ?_|refine zAb (Ev_quo rfl rfl (by omega)) ?_)
    |(refine ek_rem ?_;first|refine zAb (Ev_remI rfl rfl (by omega)) ?_|refine zAb (Ev_rem rfl rfl (by omega)) ?_)
    |(refine ek_shl ?_;first|refine zAb (Ev_shl rfl rfl (by omega)) ?_)
    |(refine ek_shr ?_;first|refine zAb (Ev_shr rfl rfl (by omega)) ?_)
    |(refine zBg ?_;first|refine zAb (Ev_eqlI rfl rfl) ?_|refine zAb (Ev_eqlS rfl rfl) ?_|refine zAb (Ev_eqlNil rfl rfl) ?_|refine zAb (Ev_eqlB rfl rfl) ?_|refine zAb (Ev_eqlO rfl rfl rfl (fun _=>rfl)) ?_)
    |(refine zBz ?_;first|refine zAb (Ev_neqI rfl rfl) ?_|refine zAb (Ev_neqS rfl rfl) ?_|refine zAb (Ev_neqNil rfl rfl) ?_|refine zAb (Ev_neqB rfl rfl) ?_|refine zAb (Ev_neqO rfl rfl rfl (fun _=>rfl)) ?_)
    |(refine zAq ?_;first|refine zAb (Ev_lssI rfl rfl) ?_|refine zAb (Ev_lssS rfl rfl) ?_)
    |(refine ek_leq ?_;first|refine zAb (Ev_leqI rfl rfl) ?_|refine zAb (Ev_leqS rfl rfl) ?_)
    |(refine zBf ?_;first|refine zAb (Ev_gtrI rfl rfl) ?_|refine zAb (Ev_gtrS rfl rfl) ?_)
    |(refine ek_geq ?_;first|refine zAb (Ev_geqI rfl rfl) ?_|refine zAb (Ev_geqS rfl rfl) ?_)
   exact h.go)
 |(refine is_ex ?_;refine KJ_blk_exit' rfl ?_;exact h.go)
 |(refine is_fw ?_;(first|refine FW_open rfl ?_|refine FW_nil ?_|refine FW_ef rfl ?_|refine FW_efg rfl rfl rfl ?_);exact h.go)
 |(refine AtR_mk rfl ?_;exact h.go)
 |(refine Rech_open rfl ?_;exact h.go)):G:=h ⟨g⟩
theorem xsa {A G:Prop} (g:A) (h:Later A→G:=by
 intro h
 refine is_oper ?_
 first|(refine zBc ?_;refine zAu rfl ?_)|(refine zBe ?_;refine zBb rfl xF rfl ?_)
 exact h.go):G:=h ⟨g⟩
theorem xsb {A B G:Prop} (a:A) (b:B) (h:Later A→Later B→G:=by
 intro h1 h2
 first
 |(refine is_code ?_;refine KJ_cond_dec rfl ?_ ?_ <;> first|exact h1.go|exact h2.go)
 |(refine is_list ?_;first|(refine KJ_guard_dec_t rfl rfl rfl ?_ ?_ <;> first|exact h1.go|exact h2.go)|(refine KJ_guard_dec_f rfl rfl rfl ?_ ?_ <;> first|exact h1.go|exact h2.go))
 |(refine is_fo ?_;first|(refine FO_dec_t rfl rfl ?_ ?_ <;> first|exact h1.go|exact h2.go)|(refine FO_dec_f rfl rfl ?_ ?_ <;> first|exact h1.go|exact h2.go))):G:=h ⟨a⟩ ⟨b⟩
theorem xsc {A G:Prop} (g:A) (h:Later A→G:=by
 intro h
 first
 |(refine is_oper ?_;(first|(refine is_store ?_;refine KJ_store rfl rfl xS xF (by rfl) xO xL xR ?_)|refine KJ_ek rfl ?_|refine KJ_ek0 ?_);exact h.go)
 |(refine is_code ?_;(first|refine KJ_cond_t rfl ?_|refine KJ_cond_f rfl ?_);exact h.go)
 |(refine is_list ?_;(first|refine KJ_guard_yes rfl rfl ?_|refine KJ_guard_no rfl rfl rfl rfl ?_);exact h.go)
 |(refine is_fo ?_;(first|refine FO_no rfl rfl rfl rfl ?_|refine FO_ekg rfl rfl rfl ?_|refine FO_ek rfl ?_);exact h.go)
 |(refine is_ro ?_;(first|refine RO_no rfl rfl rfl rfl ?_|refine RO_ekg rfl rfl ?_|refine RO_ek ?_);exact h.go)):G:=h ⟨g⟩
end Go.Proofs.YtgipenahkmbelaaGreatDoor
