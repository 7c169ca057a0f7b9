/-
  Mor3, Mor4, Bld, Sec, Sec2, Sec3.
-/
import Derived.Test.YtoipmnikdiogcaaGreatDoorYBG
import Derived.Lib.AppendStr
import Derived.Lib.Builder
import Derived.Lib.UnsafeStr
import Derived.Laws.Externs
set_option maxRecDepth 100000
set_option maxHeartbeats 64000000
namespace Go.Proofs.YtoipmnikdiogcaaGreatDoor
open Go Go.RowKit
open Go.Proofs.Tryz
abbrev yYG:Pl:=(po [0,1,2,3,4,5,6,7,8,9] (.ef 10 [] (.op 11 .nil)))
abbrev yYH:Pl:=(po [0,1,2,3] .nil)
abbrev yYI:Pl:=(po [0,2,3] (.ef 1 [3,2] (.ef 4 [] (po [5,6,7] .nil))))
abbrev yQF:Pl:=(po [0,1,2] .nil)
abbrev yYJ:Pl:=(po [0,1,2,3,4] (.ef 5 [1,0] (.op 6 (.ef 7 [] .nil))))
def yHl {α:Type} (tag key:Nat) (F:α→List SP):SP:=⟨tag,key,fun h=>∃ a,yAH (F a) h⟩
theorem yDP {α:Type} {tag key:Nat} {F:α→List SP} {H:List SP} (a:α):∀ g,yAH (F a++H) g→yAH (yHl tag key F::H) g:=by intro g q;obtain ⟨h1,h2,d,l1,l2,s1,s2⟩:=(yBj g).1 q;exact ⟨h1,h2,d,l1,l2,⟨a,s1⟩,s2⟩
theorem yPq {α:Type} {tag key:Nat} {F:α→List SP} {H:List SP} {g:Hl} (q:yAH (yHl tag key F::H) g):∃ a,yAH (F a++H) g:=by obtain ⟨h1,h2,d,l1,l2,⟨a,s1⟩,s2⟩:=q;exact ⟨a,(yBj g).2 ⟨h1,h2,d,l1,l2,s1,s2⟩⟩
theorem St.unpack {W w:World} {α:Type} {tag key:Nat} {F:α→List SP} {H:List SP} (s:St W (yHl tag key F::H) w):∃ a,St W (F a++H) w:=by obtain ⟨h,q,l⟩:=s.own;obtain ⟨a,q⟩:=yPq q;exact ⟨a,s.below,h,q,l⟩
theorem KJ.unpack {W:World} {n:Nat} {k:KK} {E:Env} {α:Type} {tag key:Nat} {F:α→List SP} {H:List SP} (h:∀ a,KJ W n k E (F a++H)):KJ W n k E (yHl tag key F::H):=
 ⟨fun a w p s=>by obtain ⟨x,s⟩:=(show St W (yHl tag key F::(H++dm a.defers)) w from s).unpack;exact (h x).go a w p (by rw [Sta,zLd];exact s)⟩
theorem KJ.unpack_at {W:World} {n:Nat} {k:KK} {E:Env} {α:Type} {tag key:Nat} {F:α→List SP} {H R:List SP} (q:Sel (yHl tag key F) H R) (h:∀ a,KJ W n k E (F a++R)):KJ W n k E H:=KJ.perm (KJ.unpack h) q.perm
theorem yJ6 {P:Program} {W:World} {f:FuncId} {args:List Value} {Hs:List SP} {X:Type} {r:X→Value} {H':X→List SP} {α:Type} {tag key:Nat} {F:α→List SP} (h:∀ a,Ct P W f args (F a++Hs) r H'):Ct P W f args (yHl tag key F::Hs) r H':=
 ⟨fun R w s=>by obtain ⟨x,s⟩:=(show St W (yHl tag key F::(Hs++R)) w from s).unpack;exact (h x).go R w (by simpa using s)⟩
theorem yJd (l:zB):Lib.strCells ⟨l.toArray⟩=bvs l:=by simp [Lib.strCells,bvs,bv]
theorem yME {P:Program} (w:World) (base:Nat) (t u ty e:TypeId) (i:TypeInfo) (ht:P.underlying t=some (.slice e)) (hu:P.underlying u=some .string) (hi:P.info? e=some i) (z:Value) (hz:i.zero=some z) (jT:z.cells=#[.int .u8 0]) (ew:i.size=1) (hby:i.bytes=1) (v:Value) (n:Nat) (xs:List Value) (aA:w.ownsRow base e 1 v n xs) (l:zB) (ao:l≠[]∨v.ownBlock.isSome=true) (eL:n+l.length≤140737488355328) (fD:base≤w.heap.size) :∃ g c w',(Builtin.append_ #[t,u] ty #[v,strV l]).run P w=.ok (.slice (zq g) (n+l.length) c) w'∧w'.ownsRow base e 1 (.slice (zq g) (n+l.length) c) (n+l.length) (xs++bvs l)∧w.grownBy w' v.ownBlock∧(v.ownBlock=some g∨g=w.heap.size):=by
 have hb':n+(⟨l.toArray⟩:ByteArray).size≤140737488355328:=eL;have iG:(⟨l.toArray⟩:ByteArray).size=l.length:=rfl;have df:xs.length=n:=by simpa using aA.1
 have jo:n+l.length≤maxLen:=by unfold maxLen;omega
 have ai:(xs++bvs l).length=(n+l.length)*1:=by rw [zLa,df,bvs_length',Nat.mul_one]
 have grown:∀ (old:Nat),old<n+l.length→∀ (row:Option Nat),
  (w.drew.alloc (.cells (xs.toArray++(bvs l).toArray++Builtin.zeroCells z.cells (grownCap w (n+l.length) old e-(n+l.length))) e)).ownsRow base e 1
   (.slice (some ⟨w.heap.size,0,none⟩) (n+l.length) (grownCap w (n+l.length) old e)) (n+l.length) (xs++bvs l)∧
  w.grownBy (w.drew.alloc (.cells (xs.toArray++(bvs l).toArray++Builtin.zeroCells z.cells (grownCap w (n+l.length) old e-(n+l.length))) e)) row:=by
  intro old ho row;have gu:=grownCap_ge w (n+l.length) old e;have jP:grownCap w (n+l.length) old e≤maxLen:=grownCap_le_maxLen w (n+l.length) old e jo;refine ⟨⟨ai,.inr ⟨w.heap.size,_,_,rfl,fD,heap_alloc_new w.drew _,gu,jP,?_,?_⟩⟩,⟨rfl,rfl,rfl,by simp,fun k hk _=>heap_alloc_old w.drew _ hk⟩⟩
  ·have dN:z.cells.size=1:=by rw [jT];rfl
   simp only [Array.size_append,List.size_toArray,size_zeroCells,dN,df,bvs_length'];omega
  ·simp only [Array.toList_append,zLd];rw [← zLd,← ai];exact List.take_left
 rcases aA.2 with ⟨rfl,rfl⟩|⟨g,cap,aw,rfl,hbg,hg,hnc,jP,dx,htake⟩
 ·have hx:xs=[]:=List.eq_nil_of_length_eq_zero df;subst hx;have gc:0<l.length:=by
   rcases ao with h|h
   ·exact zLv.2 h
   ·simp [Value.ownBlock] at h
  have hr:=run_append_nil_string (P:=P) w t u ty e i z ht hu hi hz ⟨l.toArray⟩ gc (by rw [iG];omega) (by rw [hby,iG];omega);have iD:=grown 0 zO (Value.ownBlock (.slice none 0 0));have e1:((⟨l.toArray⟩:ByteArray).data.map fun b=>Value.int .u8 b.toNat)=(bvs l).toArray:=by simp [bvs,bv]
  rw [e1,iG] at hr;simp only [zLq,List.nil_append,Array.empty_append] at iD ⊢;exact ⟨_,_,_,hr,iD.1,iD.2,.inr rfl⟩
 ·by_cases ah:n+l.length≤cap
  ·have hcs':aw.size=cap:=by simpa using dx
   have hr:=Lib.run_append_room_string (P:=P) w t u ty e i ht hu hi ew g n cap aw hg ⟨l.toArray⟩ (by rw [iG];exact ah) (by rw [iG];omega);rw [yJd,iG] at hr;refine ⟨_,_,_,hr,⟨ai,.inr ⟨g,cap,_,rfl,hbg,setRow_heap w g aw _ e _ hg,ah,jP,?_,?_⟩⟩,⟨rfl,rfl,rfl,by simp,fun k _ hk=>setRow_other w g k _ (fun e=>hk (by simp [Value.ownBlock,e]))⟩,.inl rfl⟩
   ·simp only [List.size_toArray,zLa,zLg,zLf,Array.length_toList,bvs_length'];omega
   ·have ht':aw.toList.take n=xs:=by simpa using htake
    rw [ht',← ai];exact List.take_left
  ·have holds:∀ j u,xs[j]? = some u→w.cell? ((⟨g,0,none⟩:Addr).add j)=some u:=aA.cells (g:=g) rfl;have hr:=Lib.run_append_grow_string (P:=P) w t u ty e i z ht hu hi hz ⟨g,0,none⟩ n cap xs (by rw [ew];simpa using df) holds ⟨l.toArray⟩ (by rw [iG];omega) (by rw [iG];omega) (by rw [hby,iG];exact growslice_fits zO zO);rw [yJd,iG] at hr;have iD:=grown cap zO (Value.ownBlock (.slice (zq g) n cap));exact ⟨_,_,_,hr,iD.1,iD.2,.inr rfl⟩
section
variable {P:Program} {W:World} {n:Nat} {E:Env} {H H' R:List SP} {k:KK} {x y z:Operand} {t u e T:TypeId} {b off d m c:Nat}
theorem St.rowStep {w w':World} {v v':Value} {size i j:Nat} {xs ys:List Value} (s:St W H w) (ap:Sel (yA4 v e size i xs) H R) (aA:w'.ownsRow W.heap.size e size v' j ys) (hg:w.grownBy w' v.ownBlock) (eY:∀ g,v'.ownBlock=some g→v.ownBlock=some g∨g=w.heap.size) :St W (yA4 v' e size j ys::R) w':=by
 obtain ⟨g1,g2,dj,hA,hH,l1,l2⟩:=(show St W ([yA4 v e size i xs]++R) w from s.perm ap.perm).split;have yDw:∀ gg,v.ownBlock=some gg→∃ o,g1 gg=some o:=by
  intro gg hgg;obtain ⟨ha,_,_,le,_,⟨_,hd⟩,_⟩:=hA;rcases hd with ⟨aR,_⟩|⟨g'',je,cur',aR,hh0,_⟩
  ·rw [aR] at hgg;simp [Value.ownBlock] at hgg
  ·rw [aR] at hgg;simp [Value.ownBlock] at hgg;subst hgg;exact ⟨_,le _ _ hh0⟩
 have fa:∀ kk,kk<w.heap.size→g1 kk=none→w'.heap[kk]? = w.heap[kk]?:=by intro kk hk aT;refine hg.block kk hk (fun e=>?_);obtain ⟨o,ho⟩:=yDw kk e.symm;rw [aT] at ho;cases ho
 rcases aA.2 with ⟨hv,hj⟩|⟨g',cap,aw,hv,fD,hh,hrest⟩
 ·exact St.join (B:=[yA4 v' e size j ys]) (g:=fun _=>none) s.below dj hH l1 l2 (yBP ⟨aA.1,.inl ⟨hv,hj⟩⟩) hg.os hg.tape hg.output hg.size (fun _ _ q=>by cases q) (fun _ _ q=>by cases q) fa
 ·refine St.join (B:=[yA4 v' e size j ys]) (g:=Hl.one g' (.cells aw e (0,0))) s.below dj hH l1 l2 (yBP ⟨aA.1,.inr ⟨g',cap,aw,hv,Hl.one_self _ _,hrest⟩⟩) hg.os hg.tape hg.output hg.size ?_ ?_ fa
  ·intro kk o q;obtain ⟨rfl,rfl⟩:=Hl.one_some q;exact hh
  ·intro kk o q;obtain ⟨rfl,rfl⟩:=Hl.one_some q;rcases eY kk (by rw [hv];rfl) with hl|hl
   ·exact .inl (yDw kk hl)
   ·exact .inr zO
theorem yED {v:Value} {i:Nat} {xs:List Value} {l:zB} (hx:Env.ev E x=some v) (hy:Env.ev E y=some (strV l)) [hu:UIs P t (.slice e)] [hstr:UIs P u .string] [hs:SzIs P e 1] [hb:ByIs P e 1] [hz:ZcIs P e [.int .u8 0]] (ap:Sel (yA4 v e 1 i xs) H R) (ao:l≠[]∨v.ownBlock.isSome=true) (fO:i+l.length≤140737488355328) (hn:Nat.blt d n=true) (h:∀ g c,KJ W n k ((d,.slice (zq g) (i+l.length) c)::E) (yA4 (.slice (zq g) (i+l.length) c) e 1 (i+l.length) (xs++bvs l)::R)):KJ W n (.oper P (.call { callee:=.builtin .append,args:=#[x,y],argTypes:=#[t,u] }) (some d) k) E H:=by
 refine ⟨fun a w p s o ho hd=>?_⟩
 replace ap:=ap.app (dm a.defers)
 have hz:=hz.h;have hs:=hs.h;have hb:=hb.h;cases hq:P.info? e with
 |none=>simp [hq] at hz
 |some it=>
  simp [hq] at hz hs hb;obtain ⟨zv,dN,eb⟩:=hz;obtain ⟨g,cc,w',av,aA,bh,eY⟩:=yME (P:=P) w W.heap.size t u o.type e it hu.h hstr.h hq zv dN (by simpa using eb) hs hb v i xs (s.row ap) l ao fO s.size;show uponP P o a _ ((execOp a.eval o).run P w);have aN:(execOp a.eval o).run P w=.ok (.value (.slice (zq g) (i+l.length) cc)) w':=by simp only [execOp,ho,resolve,invoke,builtin,Sem.run_bind,Sem.run_pure,Result.andThen_ok,List.map_toArray,List.map_cons,List.map_nil,p.ev hx,p.ev hy,av]
  rw [aN];have st:=s.rowStep ap aA bh (fun g' hg'=>by
   have:g=g':=by simpa [Value.ownBlock] using hg'
   subst this;exact eY)
  have:=(h g cc).go _ w' (p.put (d:=some d) hn _) st;rw [← hd] at this;exact this
theorem yFr {s u:TypeId} {g i:Nat} {l:zB} (hx:Env.ev E x=some (.slice (zq g) i c)) [hs:UIs P s (.slice e)] [he:UIs P e (.int .u8)] [hd:UIs P u .string] (ap:Sel (yA4 (.slice (zq g) i c) e 1 i (bvs l)) H R):Ev P W n E H (.convert s u x) (strV l):=
 Ev.mk fun o ho a w p q=>by
  have aC:=q.row ap;have hl:l.length=i:=by have:=aC.1;rw [bvs_length'] at this;omega
  have hr:=run_convert_bytes_back (P:=P) w s u e ⟨g,0,none⟩ c l hs.h he.h hd.h (fun j hj=>aC.cells (g:=g) rfl j _ (by simp [bvs,bv,hj]));rw [hl] at hr;simp only [execOp,ho,p.ev hx,Sem.run_bind,hr,Result.andThen_ok,Sem.run_pure]
theorem yCC {m:Nat} [hu:UIs P t (.slice e)] [hs:SzIs P e m] (hn:Nat.blt d n=true) (h:∀ g,KJ W n k ((d,.slice (zq g) 0 0)::E) (yA4 (.slice (zq g) 0 0) e m 0 []::H)):KJ W n (.oper P (.buildSlice t 0 #[]) (some d) k) E H:=by
 refine ⟨fun a w p s o ho hd=>?_⟩;have hs:=hs.h;cases hq:P.info? e with
 |none=>simp [hq] at hs
 |some it=>
  show uponP P o a _ ((execOp a.eval o).run P w);have aN:(execOp a.eval o).run P w=.ok (.value (.slice (some ⟨w.heap.size,0,none⟩) 0 0)) (w.alloc (.cells #[] e)):=by simp [execOp,ho,Instr.buildSlice,run_underlying hu.h,sizeOf,typeInfo,hq,Instr.fill,newRow,Go.newObj,Sem.run,Result.andThen,Array.eq_empty_of_size_eq_zero (xs:=Array.range 0) zW]
  rw [aN]
  have st:St W (yA4 (.slice (some ⟨w.heap.size,0,none⟩) 0 0) e m 0 []::(H++dm a.defers)) (w.alloc (.cells #[] e)):=
   s.alloc ⟨by simp,.inr ⟨w.heap.size,0,#[],rfl,Hl.one_self _ _,Nat.le_refl _,by unfold maxLen;omega,by simp,by simp⟩⟩
  have:=(h w.heap.size).go _ _ (p.put (d:=some d) hn _) st;rw [← hd] at this;exact this
theorem yFs {v:Value} {vs xs:List Value} {g i size:Nat} (hx:Env.ev E x=some (.pointer (some ⟨g,off,none⟩))) (hy:Env.ev E y=some v) [hi:SzIs P t m] (ap:Sel (yA4 (.slice (zq g) i c) e size i xs) H R) (hv:CellsOf v vs) (hl:vs.length=m) (h1:Ones vs) (ak:off+m≤xs.length) (h:KJ W n k E (yA4 (.slice (zq g) i c) e size i (lay xs off vs)::R)):KJ W n (.oper P (.store t x y) none k) E H:=by
 refine ⟨fun a w p s o ho hd=>?_⟩
 replace ap:=ap.app (dm a.defers)
 have aC:=s.row ap;rcases aC.2 with ⟨q,_⟩|⟨g',cap,aw,hvv,hbg,hg,hnc,jP,dx,htake⟩
 ·cases q
 cases hvv;have gZ:Blk w g aw.toList e:=by simpa [Blk] using hg
 have df:=aC.1;have dS:xs.length≤aw.size:=by rw [df,dx];exact zLt _ hnc
 have av:=yFl (P:=P) w g off t aw.toList vs e gZ (by simp;omega) (by rw [hl];exact hi.h) h1.all;have e1:(Instr.storeAt t (.pointer (some ⟨g,off,none⟩)) v).run P w=(Instr.storeAt t (.pointer (some ⟨g,off,none⟩)) (.agg vs.toArray)).run P w:=by simp only [Instr.storeAt,storeVar,hv.spec];rfl
 show uponP P o a _ ((execOp a.eval o).run P w);have e2:(execOp a.eval o).run P w=.ok .skip (w.setRow g (lay aw.toList off vs).toArray):=by simp [execOp,ho,p.ev hx,p.ev hy,e1,av,Result.andThen]
 rw [e2];have hlc:(lay aw.toList off vs).length=aw.size:=by rw [yBL _ _ _ (by simp;omega)];simp
 have st:St W (yA4 (.slice (zq g) i c) e size i (lay xs off vs)::(R++dm a.defers)) (w.setRow g (lay aw.toList off vs).toArray):=by
  refine s.rowStep ap ⟨by rw [yBL _ _ _ zO];exact df,.inr ⟨g,c,_,rfl,hbg,setRow_heap w g aw _ e _ hg,hnc,jP,by simpa [hlc] using dx,?_⟩⟩ ⟨rfl,rfl,rfl,by simp [World.setRow],fun kk _ hk=>setRow_other w g kk _ (fun e=>hk (by simp [Value.ownBlock,e]))⟩ (fun g' hg'=>.inl hg');show (lay aw.toList off vs).take (i*size)=lay xs off vs;rw [← htake];have hs:off+vs.length≤i*size:=zO;have hic:i*size≤aw.toList.length:=by simp;omega
  unfold lay;rw [List.take_take,Nat.min_eq_left zO,zLF,zLg,Nat.min_eq_left (by simp;omega),zLF,List.drop_take];rw [zLi (l:=aw.toList.take off) (by simp;omega),zLi (l:=vs) zO];congr 3;omega
 have:=h.go _ _ (p.put (d:=none) rfl undef) st;rw [← hd] at this;exact this
end
section
variable {P:Program} {W:World} {n d:Nat} {E:Env} {H H' R:List SP} {t u e:TypeId} {x y z:Operand} {T:TypeId} {b off:Nat} {k:KK} {q:QQ}
theorem yHm {G:Prop} {K:KK} (Q:KK→Prop) (main:Q K→G) (r:Q K):G:=main r
theorem yEo {id:Nat} {ops:Array Oper} {dr:Bool} (h:KJ W n (.code P (Code.region id ops dr) q) E H):KJ W n (.code P (Code.region id ops dr) q) E H:=h
theorem yAE {id:Nat} {ops:Array Oper} {dr:Bool} {c:Code} (h:KJ W n (.code P (Code.seq (Code.region id ops dr) c) q) E H):KJ W n (.code P (Code.seq (Code.region id ops dr) c) q) E H:=h
theorem yAd {i j r:Int} (hx:Env.ev E x=some (zi i)) (hy:Env.ev E y=some (zi j)) (h:i+j=r) (hb:-9223372036854775808≤r∧r≤9223372036854775807):Ev P W n E H (.binOp .add t x y u) (zi r):=by subst h;exact yTx hx hy hb
theorem yBl {i j r:Int} (hx:Env.ev E x=some (zi i)) (hy:Env.ev E y=some (zi j)) (h:i-j=r) (hb:-9223372036854775808≤r∧r≤9223372036854775807):Ev P W n E H (.binOp .sub t x y u) (zi r):=by subst h;exact yTy hx hy hb
theorem yAX {i j r:Int} (hx:Env.ev E x=some (zi i)) (hy:Env.ev E y=some (zi j)) (h:i*j=r) (hb:-9223372036854775808≤r∧r≤9223372036854775807):Ev P W n E H (.binOp .mul t x y u) (zi r):=by subst h;exact yTz hx hy hb
theorem yUc {a b:zB} (hx:Env.ev E x=some (strV a)) (hy:Env.ev E y=some (strV b)) (h:a≠b):Ev P W n E H (.binOp .eql t x y u) (.bool false):=by have:=yO2 (P:=P) (W:=W) (n:=n) (E:=E) (H:=H) (t:=t) (u:=u) hx hy;rw [zZ h] at this;exact this
theorem yEp {a b:zB} (hx:Env.ev E x=some (strV a)) (hy:Env.ev E y=some (strV b)) (h:a≠b):Ev P W n E H (.binOp .neq t x y u) (.bool true):=by have:=yMn (P:=P) (W:=W) (n:=n) (E:=E) (H:=H) (t:=t) (u:=u) hx hy;rw [zY (by exact h)] at this;exact this
theorem yUd {ps:List (Nat × Operand)} {pv:List (Nat × Value)} {vs:List Value} (hp:EvP E ps pv) (h:P.built t pv=some vs.toArray):Ev P W n E H (.build t ps.toArray) (.agg vs.toArray):=
 Ev.mk fun o ho a w p _=>by
  have e:(ps.toArray.map fun (i,x)=>(i,a.eval x)).toList=pv:=by rw [← hp.map p];simp
  have h1:=run_build (P:=P) w t (ps.toArray.map fun (i,x)=>(i,a.eval x)) vs.toArray (by rw [e];exact h);simp only [execOp,ho,Sem.run_bind,h1,Result.andThen_ok,Sem.run_pure]
end
section
variable {P:Program} {W:World} {n:Nat} {ops:Array Oper} {q:QQ} {E:Env} {H R:List SP} {k:KK} {d:Nat} {t u e T s:TypeId} {b off:Nat} {x y:Operand}
theorem yF8 {xs:Array Operand} {ts:Array TypeId} {dd:Option Tmp} (h:KJ W n (.oper P (.call { callee:=.builtin .unsafeString,args:=xs,argTypes:=ts }) dd k) E H):KJ W n (.oper P (.call { callee:=.builtin .unsafeString,args:=xs,argTypes:=ts }) dd k) E H:=h
theorem yEE {xs:Array Operand} {ts:Array TypeId} {C:Value→Prop} (h:EK P W n E H (.call { callee:=.builtin .unsafeSliceData,args:=xs,argTypes:=ts }) C):EK P W n E H (.call { callee:=.builtin .unsafeSliceData,args:=xs,argTypes:=ts }) C:=h
theorem yPr {f : FuncId} {fn : Func} {ts : Array TypeId} {v : Value} (hf : P.funcs[f]? = some fn) (h1 : (fn.name == "runtime.NumGoroutine") = false) (h2 : fn.body.isNone = true) (h3 : Extern.findNext fn = none) (h4 : Extern.find fn = some Extern.AbiNoEscape.same) (hx:Env.ev E x=some v) (hn:Nat.blt d n=true) (h:KJ W n k ((d,v)::E) H):KJ W n (.oper P (.call { callee:=.value (.func f),args:=#[x],argTypes:=ts }) (some d) k) E H:=
 yZn (Ev.mk fun o ho a w p _=>by have e:a.eval (.func f)=.func (.func f) #[] #[]:=rfl;have hc:=run_callFunc_extern hf h1 h2 h3 h4 #[v] w;rw [Lib.run_noEscape] at hc;simp [execOp,ho,resolve,e,Deferred.ofValue,invoke,p.ev hx,hc,Result.andThen]) hn h
theorem yPs {cs:List Value} {z:Nat} (hx:Env.ev E x=some (.pointer (some ⟨b,off,none⟩))) [hs:UIs P s (.pointer u)] [hd:UIs P t .unsafePointer] [hz:SzIs P u (z+1)] (ap:Sel (yAj b cs T) H R) (ho:off<cs.length):Ev P W n E H (.convert s t x) (.pointer (some ⟨b,off,none⟩)):=
 Ev.mk fun o dE a w p q=>by
  have hz:=hz.h;cases hq:P.info? u with
  |none=>simp [hq] at hz
  |some j=>
   simp [hq] at hz;have hb:=(q.blk ap).2;have fN:w.shape? (⟨b,off,none⟩:Addr).block=some (T,cs.length):=by have:w.heap[b]? = some (.cells cs.toArray T (0,0)):=hb;simp [World.shape?,this]
   have:=Lib.run_to_unsafe (P:=P) w ⟨b,off,none⟩ hs.h hd.h hq zO fN ho;simp [execOp,dE,p.ev hx,this,Result.andThen]
theorem yMF {cs:List Value} {z:Nat} (hx:Env.ev E x=some (.pointer (some ⟨b,off,none⟩))) [hs:UIs P s .unsafePointer] [hd:UIs P t (.pointer u)] [hz:SzIs P u z] (ap:Sel (yAj b cs T) H R) (hl:liesAt P P.depth T (cs.length / P.cellsOf T) off u 1=true):Ev P W n E H (.convert s t x) (.pointer (some ⟨b,off,none⟩)):=
 Ev.mk fun o dE a w p q=>by
  have hz:=hz.h;cases hq:P.info? u with
  |none=>simp [hq] at hz
  |some j=>
   have hb:=(q.blk ap).2;have fN:w.shape? (⟨b,off,none⟩:Addr).block=some (T,cs.length):=by have:w.heap[b]? = some (.cells cs.toArray T (0,0)):=hb;simp [World.shape?,this]
   have:=Lib.run_from_unsafe (P:=P) w ⟨b,off,none⟩ hs.h hd.h hq fN hl;simp [execOp,dE,p.ev hx,this,Result.andThen]
theorem yLG {a:Addr} {z:Nat} (hx:Env.ev E x=some (.pointer (some a))) (hy:Env.ev E y=some (.pointer (some a))) [hu:UIs P t (.pointer u)] [hz:SzIs P u z] {v:TypeId} (hg:∀ w,(eqGuard .neq t x y (.pointer (some a)) (.pointer (some a))).run P w=.ok () w):Ev P W n E H (.binOp .neq t x y v) (.bool false):=
 yEh hx hy hg fun w=>by
  have hz:=hz.h;cases hq:P.info? u with
  |none=>simp [hq] at hz
  |some j=>exact Lib.run_neq_ptr_same w a hu.h hq
theorem yMG (hx:Env.ev E x=some (.slice none off b)) {ts:Array TypeId}:Ev P W n E H (.call { callee:=.builtin .unsafeSliceData,args:=#[x],argTypes:=ts }) (.pointer none):=
 Ev.mk fun o ho a w p _=>by simp only [execOp,ho,resolve,invoke,builtin,Sem.run_bind,Sem.run_pure,Result.andThen_ok,List.map_toArray,List.map_cons,List.map_nil,p.ev hx,Lib.run_unsafeSliceData_nil]
theorem yNO {g i c sz:Nat} {xs:List Value} (hx:Env.ev E x=some (.slice (zq g) i c)) (ap:Sel (yA4 (.slice (zq g) i c) e sz i xs) H R) (h0:i≠0) {ts:Array TypeId}:Ev P W n E H (.call { callee:=.builtin .unsafeSliceData,args:=#[x],argTypes:=ts }) (zPp g):=
 Ev.mk fun o ho a w p q=>by
  have hc:c≠0:=by
   rcases (q.row ap).2 with ⟨h,_⟩|⟨g',cap,aw,h,_,_,bI,_⟩
   ·cases h
   ·cases h;omega
  simp only [execOp,ho,resolve,invoke,builtin,Sem.run_bind,Sem.run_pure,Result.andThen_ok,List.map_toArray,List.map_cons,List.map_nil,p.ev hx,Lib.run_unsafeSliceData_row _ _ _ _ _ _ hc]
theorem yJs (hx:Env.ev E x=some (.pointer none)) (hy:Env.ev E y=some (zi 0)) (hn:Nat.blt d n=true) (h:KJ W n k ((d,strV [])::E) H):KJ W n (.oper P (.call { callee:=.builtin .unsafeString,args:=#[x,y],argTypes:=#[t,u] }) (some d) k) E H:=
 yZn (Ev.mk fun o ho a w p _=>by simp only [execOp,ho,resolve,invoke,builtin,Sem.run_bind,Sem.run_pure,Result.andThen_ok,List.map_toArray,List.map_cons,List.map_nil,p.ev hx,p.ev hy,Lib.run_unsafeString_none];rfl) hn h
theorem St.frozen {w:World} {g i c sz m:Nat} {xs:List Value} (s:St W H w) (p:Sel (yA4 (.slice (zq g) i c) e sz i xs) H R):St W R (w.freeze ⟨g,0,none⟩ m):=by
 by_cases hm:m=0
 ·have:w.freeze ⟨g,0,none⟩ m=w:=by simp [World.freeze,hm]
  rw [this];exact (s.perm p.perm).mono fun h q=>(DropTo.there .refl).star h q
 refine St.act (A:=[yA4 (.slice (zq g) i c) e sz i xs]) (B:=[]) (H:=R) (s.perm p.perm) (by simp [World.freeze,hm]) (by simp [World.freeze,hm]) (by simp [World.freeze,hm]) (by simp [World.freeze,hm]) ?_;intro h1 ⟨h,_,_,le,_,a,_⟩ l;refine ⟨fun _=>none,trivial,(fun _ _ (hx:none=some _)=>nomatch hx),(fun _ _ (hx:none=some _)=>nomatch hx),fun kk _ hk=>?_⟩;have ao:kk≠g:=by
  rintro rfl
  rcases a.2 with ⟨h',_⟩|⟨g',cap,aw,h',hg,_⟩
  ·cases h'
  ·cases h';rw [le _ _ hg] at hk;cases hk
 simp [World.freeze,hm,Array.getElem?_modify,Ne.symm ao]
theorem yJ7 {g c:Nat} {l:zB} (hx:Env.ev E x=some (zPp g)) (hy:Env.ev E y=some (zi l.length)) [hu:UIs P t (.pointer e)] [SzIs P e 1] (ap:Sel (yA4 (.slice (zq g) l.length c) e 1 l.length (bvs l)) H R) (eF:P.cellsOf e=1) (h0:l≠[]) (jo:l.length≤9223372036854775807) (hn:Nat.blt d n=true) (h:KJ W n k ((d,strV l)::E) R):KJ W n (.oper P (.call { callee:=.builtin .unsafeString,args:=#[x,y],argTypes:=#[t,u] }) (some d) k) E H:=by
 refine ⟨fun a w p s o ho hd=>?_⟩
 replace ap:=ap.app (dm a.defers)
 rcases (s.row ap).2 with ⟨h',_⟩|⟨g',cap,aw,h',gu,cD,bI,iX,bu,bZ⟩
 ·cases h'
 cases h';rw [Nat.mul_one] at bu bZ;have fN:w.shape? g=some (e,c):=by simp [World.shape?,cD,bu]
 have kh:∀ j z,l[j]? = some z→w.cell? ((⟨g,0,none⟩:Addr).add j)=some (.int .u8 z.toNat):=by
  intro j z hj;have hjl:=(zLc.1 hj).1;have h2:(bvs l)[j]? = some (bv z):=by simp [bvs,hj]
  rw [← bZ,List.getElem?_take_of_lt hjl] at h2;have e1:(⟨g,0,none⟩:Addr).add j=⟨g,j,none⟩:=by unfold Addr.add;by_cases hj0:j=0 <;> simp [hj0]
  rw [e1,Lib.cell_of_heap cD];simpa [bv] using h2
 have av:=Lib.run_unsafeString_row (P:=P) w t u o.type e hu.h eF g c fN l h0 bI jo kh;show uponP P o a _ ((execOp a.eval o).run P w);have aN:(execOp a.eval o).run P w=.ok (.value (strV l)) (w.freeze ⟨g,0,none⟩ l.length):=by simp only [execOp,ho,resolve,invoke,builtin,Sem.run_bind,Sem.run_pure,Result.andThen_ok,List.map_toArray,List.map_cons,List.map_nil,p.ev hx,p.ev hy,av]
 rw [aN];have:=h.go _ _ (p.put (d:=some d) hn _) (s.frozen (m:=l.length) ap);rw [← hd] at this;exact this
end
section
variable {W:World} {b:Nat}
abbrev yR2 (b:Nat) (q v:Value):SP:=yAj b [q,v] 213
theorem yMH (v:Value):CtU prog W 187 [zPp b] [yR2 b (.pointer none) v] (.tuple #[]) [yR2 b (zPp b) v]:=by refine zE func187 ntmps187 fun R=>?_;repeat' (first|refine yAb ?_;refine yPr func225 zK zK zK zK rfl rfl ?_|(refine yAu ?_;first|refine yAa (yPs rfl xS (by show (0:Nat)<2;omega)) ?_|refine yAa (yMF rfl xS zK) ?_)|refine yAo ?_;refine yAa (yLG rfl rfl (fun _=>rfl)) ?_|refine xst ?_|refine xsf ?_ ?_|exact xdn ()|intro _)
theorem yLv (v:Value):CtU prog W 187 [zPp b] [yR2 b (zPp b) v] (.tuple #[]) [yR2 b (zPp b) v]:=by refine zE func187 ntmps187 fun R=>?_;repeat' (first|refine yAo ?_;refine yAa (yLG rfl rfl (fun _=>rfl)) ?_|refine xst ?_|refine xsf ?_ ?_|exact xdn ()|intro _)
theorem yLw (q:Value) (hq:q=.pointer none∨q=(zPp b)) (v:Value) (an s:zB) (h0:s≠[]) (hb:an.length+s.length≤140737488355328) :Ct prog W 150 [zPp b,strV s] [yR2 b q v,yA4 v 5 1 an.length (bvs an)] (fun _:Nat × Nat=>.tuple #[zi s.length,.nilIface]) (fun x=>[yR2 b (zPp b) (.slice (some ⟨x.1,0,none⟩) (an.length+s.length) x.2),yA4 (.slice (some ⟨x.1,0,none⟩) (an.length+s.length) x.2) 5 1 (an.length+s.length) (bvs an++bvs s)]):=by
 have c1:CtU prog W 187 [zPp b] [yR2 b q v] (.tuple #[]) [yR2 b (zPp b) v]:=by
  rcases hq with rfl|rfl
  ·exact yMH v
  ·exact yLv v
 refine zE func150 ntmps150 fun R=>?_;repeat' (first|refine yAQ ?_;refine yED rfl rfl xS (.inl h0) hb rfl (fun g c=>?_)|refine xst ?_|refine xsf ?_ ?_|intro _)
 all_goals (exact xdn (_,_))
theorem yR3 (q:Value):CtU prog W 151 [zPp b] [yR2 b q (.slice none 0 0)] (strV []) []:=by refine zE func151 ntmps151 fun R=>?_;repeat' (first|refine yF8 ?_;refine yJs rfl rfl rfl ?_|refine yEE ?_;refine yAa (yMG rfl) ?_|refine xst ?_|refine xsf ?_ ?_|refine xdr 1 yYG ?_|exact xdn ()|apply zN|intro _)
theorem yUe (q:Value) (g c:Nat) (an:zB) (h0:an≠[]) (hb:an.length≤9223372036854775807):CtU prog W 151 [zPp b] [yR2 b q (.slice (zq g) an.length c),yA4 (.slice (zq g) an.length c) 5 1 an.length (bvs an)] (strV an) []:=by
 have ao:an.length≠0:=by simpa using h0
 refine zE func151 ntmps151 fun R=>?_;repeat' (first|refine yF8 ?_;refine yJ7 rfl rfl xS zK h0 hb rfl ?_|refine yEE ?_;refine yAa (yNO rfl xS ao) ?_|refine xst ?_|refine xsf ?_ ?_|refine xdr 1 yYG ?_|exact xdn ()|apply zN|intro _)
end
def nibT:List Int:=[0,274646895,549293790,820201905,1098587580,1361435347,1640403810,1905808397,2197175160,2460548119,2722870694,2987750089,3280807620,3553878443,3811616794,4084100981]
def NibAt (W:World):Prop:=∀ i,i<16→W.cell? ⟨37,i,none⟩=some (.int .u32 (nibT.getD i 0))
def yMI (a:Int):Int:=bits .xor .u32 (a.fdiv (2 ^ (min (4:Int).toNat IntKind.u32.bits))) (nibT.getD (bits .and .u32 a 15).toNat 0)
def yJ8 (s:Int) (c:UInt8):Int:=yMI (yMI (bits .xor .u32 s (IntKind.u32.wrap c.toNat)))
def yG7 (s:Int) (l:zB):Int:=l.foldl yJ8 s
def yG8 (s:Int):Int:=bits .xor .u32 (if IntKind.u32.signed then -1 else IntKind.u32.max) s
def yDQ (l:zB):Int:=yG8 (yG7 (yG8 0) l)
theorem xBu (a:Int):0≤bits .and .u32 a 15∧bits .and .u32 a 15<((16:Nat):Int):=by
 have h:(BitVec.ofInt 32 a &&& BitVec.ofInt 32 15).toNat≤15:=by rw [BitVec.toNat_and];exact Nat.and_le_right
 have e:bits .and .u32 a 15=IntKind.u32.wrap ((BitVec.ofInt 32 a &&& BitVec.ofInt 32 15).toNat):=rfl;have e2:IntKind.u32.wrap ((BitVec.ofInt 32 a &&& BitVec.ofInt 32 15).toNat)=((BitVec.ofInt 32 a &&& BitVec.ofInt 32 15).toNat:Int) % 4294967296:=rfl;rw [e,e2];omega
theorem NibAt.at_ {W:World} (h:NibAt W) (a:Int):W.cell? ⟨37,0+(bits .and .u32 a 15).toNat*1,none⟩=some (.int .u32 (nibT.getD (bits .and .u32 a 15).toNat 0)):=by have:=xBu a;rw [zLq,Nat.mul_one];exact h _ zO
theorem yPt (s:Int) (l:zB) (i:Nat) (c:UInt8) (h:l[i]? = some c):yG7 s (l.take (i+1))=yJ8 (yG7 s (l.take i)) c:=by unfold yG7;rw [List.take_add_one,h];simp
section
variable {P:Program} {W:World} {n:Nat} {E:Env} {H:List SP} {t:TypeId} {x:Operand}
theorem yNP {i:Int} (hx:Env.ev E x=some (.int .u32 i)):Ev P W n E H (.unOp .xor t x) (.int .u32 (yG8 i)):=yWY hx
end
theorem yUf {W:World} (hN:NibAt W) (s:Int) (l:zB) (hl:l.length<4611686018427387904):CtU prog W 213 [.int .u32 s,strV l] [] (.int .u32 (yG8 (yG7 (yG8 s) l))) []:=by
 obtain ⟨A,hA⟩:∃ A:Nat→Int,A=fun i=>yG7 (yG8 s) (l.take i):=⟨_,rfl⟩;have eK:yG8 s=A 0:=by rw [hA];simp [yG7]
 have jL:yG7 (yG8 s) l=A l.length:=by rw [hA];simp
 have kC:∀ i c,l[i]? = some c→A (i+1)=yJ8 (A i) c:=fun i c h=>by rw [hA];exact yPt _ l i c h
 rw [jL];clear hA jL;refine zE func213 ntmps213 fun R=>?_;repeat' (first|refine yZv ?_;refine yAa (yNP rfl) ?_|refine xst ?_|refine xsf ?_ ?_|intro _)
 rw [eK];refine yAC (fun i:{k:Nat//k≤l.length}=>[(0,.int .u32 (A i.1)),(1,strV l),(5,zi (i.1:Nat))]) (fun _=>R) (fun i=>l.length-i.1) ⟨0,zO⟩ xB (fun _ q=>q) (fun ⟨k,hk⟩=>?_);dsimp only;by_cases hlt:k<l.length
 ·obtain ⟨c,hc⟩:∃ c,l[k]? = some c:=⟨_,zLb hlt⟩;have ax:=kC k c hc;have jK:l[(k:Int).toNat]? = some c:=by rw [zLe];exact hc
  repeat' (first|refine yAi ?_;refine yAa (yAm rfl (hN.at_ _)) ?_|refine yI8 ?_;refine yAa (yJV rfl rfl (xBu _)) ?_|refine yI9 ?_;refine yAa (yYE rfl rfl) ?_|refine yNG ?_;refine yAa (yYD rfl rfl) ?_|refine xqb ?_|refine xsf ?_ ?_|intro _)
  refine yAs ⟨k+1,zO⟩ (by show l.length-(k+1)<l.length-k;omega) ?_ (fun _ q=>q);rw [ax];exact xB
 ·have aY:k=l.length:=by omega
  subst aY;repeat' (first|refine yZv ?_;refine yAa (yNP rfl) ?_|refine xst ?_|refine xsf ?_ ?_|exact xdn ()|intro _)
theorem xBv {W:World} (hN:NibAt W) (l:zB) (hl:l.length<4611686018427387904):CtU prog W 169 [strV l] [] (.int .u32 (yDQ l)) []:=by have c1:CtU prog W 213 [.int .u32 0,strV l] [] (.int .u32 (yDQ l)) []:=yUf hN 0 l hl;refine zE func169 ntmps169 fun R=>?_;repeat' (first|refine xst ?_|refine xsf ?_ ?_|exact xdn ()|intro _)
def yNQ (x:Int) (i:Nat):Int:=IntKind.u8.wrap (x.fdiv (2 ^ (min (8*(i:Int)).toNat IntKind.u64.bits)))
def yDR (x:Int) (i:Nat):UInt8:=UInt8.ofNat (yNQ x i).toNat
theorem yUg (x:Int) (i:Nat):Value.int .u8 (yNQ x i)=bv (yDR x i):=by
 have e:yNQ x i=(x.fdiv (2 ^ (min (8*(i:Int)).toNat IntKind.u64.bits))) % 256:=rfl;have h:0≤yNQ x i∧yNQ x i<256:=by rw [e];omega
 unfold bv yDR;rw [UInt8.toNat_ofNat'];congr 1;omega
def yE0 (x:Int) (n:Nat):zB:=(List.range n).map (yDR x)
theorem yAT (x:Int) (n:Nat):(yE0 x n).length=n:=by simp [yE0]
theorem yNR (x:Int) (n:Nat):yE0 x (n+1)=yE0 x n++[yDR x n]:=by simp [yE0,List.range_succ]
theorem yWZ (l:zB) (o:Nat) (b:zB) (c:UInt8) (h:o+b.length<l.length):lay (lay l o b) (o+b.length) [c]=lay l o (b++[c]):=by
 unfold lay;have e1:(l.take o++(b++l.drop (o+b.length))).take (o+b.length)=l.take o++b:=by rw [← zLd,List.take_left' (by simp;omega)]
 have e2:(l.take o++(b++l.drop (o+b.length))).drop (o+b.length+[c].length)=l.drop (o+(b++[c]).length):=by rw [← zLd,zLG,zLl (by simp;omega)];simp only [List.nil_append,List.drop_drop];congr 1;simp;omega
 rw [e1,e2];simp
theorem yW0 (l:zB) (o:Nat) (b:zB) (c:UInt8) (h:o+b.length<l.length):lay (bvs (lay l o b)) (o+b.length) [bv c]=bvs (lay l o (b++[c])):=by rw [show [bv c]=bvs [c] from rfl,yJ1,yWZ l o b c h]
theorem yQG {W:World} (g off m c:Nat) (l:zB) (x:Int) (n:Nat) (h1:n≤m) (h2:off+m≤l.length) (h3:m≤1048576) (T:TypeId) :CtU prog W 168 [.slice (some ⟨g,off,none⟩) m c,.int .u64 x,zi (n:Nat)] [yAj g (bvs l) T] (.tuple #[]) [yAj g (bvs (lay l off (yE0 x n))) T]:=by
 refine zE func168 ntmps168 fun R=>?_;repeat' (first|refine xst ?_|refine xsf ?_ ?_|intro _)
 have h0:lay l off (yE0 x 0)=l:=yMo l off
 refine yAC (fun i:{k:Nat//k≤n}=>[(0,.slice (some ⟨g,off,none⟩) m c),(1,.int .u64 x),(7,zi (n:Nat)),(8,zi (i.1:Nat))]) (fun i=>[yAj g (bvs (lay l off (yE0 x i.1))) T]++R) (fun i=>n-i.1) ⟨0,zO⟩ xB
  (by show ∀ h,yAH ([yAj g (bvs l) T]++R) h→yAH ([yAj g (bvs (lay l off (yE0 x 0))) T]++R) h;rw [h0];exact fun _ q=>q) (fun ⟨k,hk⟩=>?_)
 dsimp only;by_cases hlt:k<n
 ·have ai:(lay l off (yE0 x k)).length=l.length:=yBL _ _ _ (by rw [yAT];omega);have ak:off+(k:Int).toNat*1+[Value.int IntKind.u8 (yNQ x k)].length≤(bvs (lay l off (yE0 x k))).length:=by rw [bvs_length',ai];simp;omega
  repeat' (first|refine yDm ?_;refine yQv (v:=.int .u8 (yNQ x k)) rfl rfl xS xF (by rfl) xO (Laid.of ak) xR ?_|refine xst ?_|refine xsf ?_ ?_|intro _)
  refine yAs ⟨k+1,zO⟩ (by show n-(k+1)<n-k;omega) xB ?_;have e:=yW0 l off (yE0 x k) (yDR x k) (by rw [yAT];omega);rw [yAT,← yNR,← yUg] at e;have e3:off+(k:Int).toNat*1=off+k:=zW;rw [e3,e];exact (xN)
 ·have jn:k=n:=by omega
  subst jn;repeat' (first|refine xst ?_|refine xsf ?_ ?_|exact xdn ()|intro _)
def yEq (x:Int) (i:Nat) (c:UInt8):Int:=bits .or .u64 x (IntKind.u64.wrap (IntKind.u64.wrap c.toNat*2 ^ (min (8*(i:Int)).toNat IntKind.u64.bits)))
def yDX (l:zB):Nat→Int
 |0=>0
 |n+1=>yEq (yDX l n) n (l.getD n 0)
theorem yUh (op:BinOp) (dE:op=.and∨op=.or∨op=.xor) (x y:Int) (m:Nat) (hm:m≤64) (hx:0≤x∧x<2 ^ m) (hy:0≤y∧y<2 ^ m):0≤bits op .u64 x y∧bits op .u64 x y<2 ^ m:=by
 have hp:(2:Int) ^ m≤18446744073709551616:=by
  have:(2:Nat) ^ m≤2 ^ 64:=Nat.pow_le_pow_right zO hm;have h2:((2 ^ m:Nat):Int)≤((2 ^ 64:Nat):Int):=by exact_mod_cast this
  simpa using h2
 have b1:(BitVec.ofInt 64 x).toNat=x.toNat:=by rw [BitVec.toNat_ofInt];omega
 have b2:(BitVec.ofInt 64 y).toNat=y.toNat:=by rw [BitVec.toNat_ofInt];omega
 have cK:((2 ^ m:Nat):Int)=2 ^ m:=zW;have eI:x.toNat<2 ^ m:=zO;have hy':y.toNat<2 ^ m:=zO;have key:∀ r:Nat,r<2 ^ m→0≤IntKind.u64.wrap (r:Int)∧IntKind.u64.wrap (r:Int)<2 ^ m:=fun r hr=>by have e:IntKind.u64.wrap (r:Int)=(r:Int) % 18446744073709551616:=rfl;rw [e];omega
 rcases dE with rfl|rfl|rfl
 ·refine key _ ?_;show (BitVec.ofInt 64 x &&& BitVec.ofInt 64 y).toNat<_;rw [BitVec.toNat_and,b1,b2];exact Nat.and_lt_two_pow _ hy'
 ·refine key _ ?_;show (BitVec.ofInt 64 x ||| BitVec.ofInt 64 y).toNat<_;rw [BitVec.toNat_or,b1,b2];exact Nat.or_lt_two_pow eI hy'
 ·refine key _ ?_;show (BitVec.ofInt 64 x ^^^ BitVec.ofInt 64 y).toNat<_;rw [BitVec.toNat_xor,b1,b2];exact Nat.xor_lt_two_pow eI hy'
theorem xCR (c:UInt8):IntKind.u64.wrap (IntKind.u64.wrap c.toNat*2 ^ (min (8*((0:Nat):Int)).toNat IntKind.u64.bits))=(c.toNat:Int):=by have h0:=zLy c;have e:∀ z,IntKind.u64.wrap z=z % 18446744073709551616:=fun _=>rfl;have e2:(min (8*((0:Nat):Int)).toNat IntKind.u64.bits)=0:=rfl;rw [e,e,e2];omega
theorem xCS (c:UInt8):IntKind.u64.wrap (IntKind.u64.wrap c.toNat*2 ^ (min (8*((1:Nat):Int)).toNat IntKind.u64.bits))=(c.toNat:Int)*256:=by have h0:=zLy c;have e:∀ z,IntKind.u64.wrap z=z % 18446744073709551616:=fun _=>rfl;have e2:(min (8*((1:Nat):Int)).toNat IntKind.u64.bits)=8:=rfl;rw [e,e,e2];omega
theorem yW1 (l:zB):0≤yDX l 2∧yDX l 2<65536:=by
 have e3:yDX l 2=bits .or .u64 (bits .or .u64 0 ((l.getD 0 0).toNat:Int)) (((l.getD 1 0).toNat:Int)*256):=by show yEq (yEq 0 0 (l.getD 0 0)) 1 (l.getD 1 0)=_;unfold yEq;rw [xCR,xCS]
 rw [e3];obtain ⟨c0,eu⟩:∃ c,c=l.getD 0 0:=⟨_,rfl⟩;obtain ⟨c1,eF⟩:∃ c,c=l.getD 1 0:=⟨_,rfl⟩;rw [← eu,← eF];have h0:=zLy c0;have h1:=zLy c1;have a1:=yUh .or (.inr (.inl rfl)) 0 (c0.toNat:Int) 16 zO zO zO;have a2:=yUh .or (.inr (.inl rfl)) (bits .or .u64 0 (c0.toNat:Int)) ((c1.toNat:Int)*256) 16 zO a1 zO;exact a2
theorem yQH {W:World} (l:zB) (n:Nat) (h1:n≤l.length) (h2:n≤1048576):CtU prog W 186 [strV l,zi (n:Nat)] [] (.int .u64 (yDX l n)) []:=by
 obtain ⟨A,hA⟩:∃ A:Nat→Int,A=yDX l:=⟨_,rfl⟩;have eK:A 0=0:=by rw [hA];rfl
 have kC:∀ i,A (i+1)=yEq (A i) i (l.getD i 0):=fun i=>by rw [hA];rfl
 rw [← hA];clear hA;refine zE func186 ntmps186 fun R=>?_;repeat' (first|refine xst ?_|refine xsf ?_ ?_|intro _)
 refine yAC (fun i:{k:Nat//k≤n}=>[(0,strV l),(5,.int .u64 (A i.1)),(7,zi (n:Nat)),(8,zi (i.1:Nat))]) (fun _=>R) (fun i=>n-i.1) ⟨0,zO⟩ ?_ (fun _ q=>q) (fun ⟨k,hk⟩=>?_)
 ·exact Subs.cons rfl (Subs.cons (show _=some (Value.int .u64 (A 0)) from by rw [eK];rfl) xB)
 dsimp only;by_cases hlt:k<n
 ·obtain ⟨c,hc⟩:∃ c,l[k]? = some c:=⟨_,zLb zO⟩;have ax:=kC k;have hcd:l.getD k 0=c:=by rw [List.getD,hc];rfl
  rw [hcd] at ax;have jK:l[(k:Int).toNat]? = some c:=by rw [zLe];exact hc
  repeat' (first|refine yFp ?_;refine yAa (yZH rfl rfl) ?_|refine xqb ?_|refine xsf ?_ ?_|intro _)
  refine yAs ⟨k+1,zO⟩ (by show n-(k+1)<n-k;omega) ?_ (fun _ q=>q);rw [ax];exact xB
 ·have jn:k=n:=by omega
  subst jn;repeat' (first|refine xst ?_|refine xsf ?_ ?_|exact xdn ()|intro _)
def yR4 (raw:zB):Nat:=if raw.length=256 then 0 else 7
def yW2 (raw:zB):Int:=if raw.length=256 then yDX raw 8 else 0
def yW3 (raw:zB):Int:=if raw.length=256 then yDX (raw.drop 248) 8 else 0
theorem yW4 {W:World} {E:Nat→Addr} (hE:ErrsOn L8 W E) (raw:zB) (h:raw.length≠256):CtU prog W 157 [strV raw] [] (.tuple #[.int .u64 0,.int .u64 0,yAy E 7]) []:=by have e7:W.cell? ⟨14,0,none⟩=some (yAy E 7):=hE.at_ 7 zX;have ao:(raw.length:Int)≠256:=zO;refine zE func157 ntmps157 fun R=>?_;repeat' (first|refine xqb ?_|refine xsf ?_ ?_|refine xdt [(2,yYH),(3,yYI)] ?_|exact xdn ()|apply zN|intro _)
theorem yZI {W:World} (raw:zB) (h:raw.length=256):CtU prog W 157 [strV raw] [] (.tuple #[.int .u64 (yDX raw 8),.int .u64 (yDX (raw.drop 248) 8),.nilIface]) []:=by have hq:(raw.length:Int)=256:=zO;have c1:CtU prog W 186 [strV raw,zi 8] [] (.int .u64 (yDX raw 8)) []:=yQH raw 8 zO zO;have c2:CtU prog W 186 [strV (raw.drop (248:Int).toNat),zi 8] [] (.int .u64 (yDX (raw.drop 248) 8)) []:=yQH (raw.drop 248) 8 (by simp;omega) zO;refine zE func157 ntmps157 fun R=>?_;repeat' (first|refine yBb ?_;refine yAa (yB0 rfl rfl zO) ?_|refine xqb ?_|refine xsf ?_ ?_|refine xdt [(2,yYH),(3,yYI)] ?_|exact xdn ()|apply zN|intro _)
def yJe (aa:Int):zB:=lay (List.replicate 256 0) 0 (yE0 aa 8)
def yG9 (aa:Int) (pl:zB):zB:=lay (yJe aa) 8 (yE0 (IntKind.u64.wrap pl.length) 2)
def yDS (aa:Int) (pl:zB):zB:=lay (yG9 aa pl) 10 pl
def yHP (aa:Int) (pl:zB):zB:=lay (yDS aa pl) 244 (yE0 (IntKind.u64.wrap (yDQ ((yDS aa pl).take 244))) 4)
def yAF (aa:Int) (pl:zB):zB:=lay (yHP aa pl) 248 (yE0 aa 8)
theorem yDo (aa:Int):(yJe aa).length=256:=by unfold yJe;rw [yBL _ _ _ (by rw [yAT,zLB];omega),zLB]
theorem yCU (aa:Int) (pl:zB):(yG9 aa pl).length=256:=by unfold yG9;rw [yBL _ _ _ (by rw [yAT,yDo];omega),yDo]
theorem yD4 (aa:Int) (pl:zB) (h:pl.length≤234):(yDS aa pl).length=256:=by unfold yDS;rw [yBL _ _ _ (by rw [yCU];omega),yCU]
theorem yDp (aa:Int) (pl:zB) (h:pl.length≤234):(yHP aa pl).length=256:=by unfold yHP;rw [yBL _ _ _ (by rw [yAT,yD4 _ _ h];omega),yD4 _ _ h]
theorem yBk (aa:Int) (pl:zB) (h:pl.length≤234):(yAF aa pl).length=256:=by unfold yAF;rw [yBL _ _ _ (by rw [yAT,yDp _ _ h];omega),yDp _ _ h]
theorem yMJ {W:World} (hN:NibAt W) (aa:Int) (pl:zB) (h0:aa≠0) (hl:pl.length≤234) :CtU prog W 123 [.int .u64 aa,strV pl] [] (.tuple #[strV (yAF aa pl),.nilIface]) []:=by
 have l1:=yDo aa;have l2:=yCU aa pl;have l3:=yD4 aa pl hl;have l4:=yDp aa pl hl;have l5:=yBk aa pl hl;have c1:∀ g,CtU prog W 168 [.slice (zq g) 256 256,.int .u64 aa,zi 8] [yAj g (bvs (List.replicate 256 0)) 5] (.tuple #[]) [yAj g (bvs (yJe aa)) 5]:=fun g=>yQG g 0 256 256 _ aa 8 zO (by rw [zLB];omega) zO _;have c2:∀ g,CtU prog W 168 [.slice (some ⟨g,8,none⟩) 248 248,.int .u64 (IntKind.u64.wrap pl.length),zi 2] [yAj g (bvs (yJe aa)) 5] (.tuple #[]) [yAj g (bvs (yG9 aa pl)) 5]:=fun g=>yQG g 8 248 248 _ _ 2 zO zO zO _;have c3:CtU prog W 169 [strV ((yDS aa pl).take 244)] [] (.int .u32 (yDQ ((yDS aa pl).take 244))) []:=xBv hN _ (by rw [zLg];omega);have c4:∀ g c,CtU prog W 168 [.slice (some ⟨g,244,none⟩) 12 c,.int .u64 (IntKind.u64.wrap (yDQ ((yDS aa pl).take 244))),zi 4] [yAj g (bvs (yDS aa pl)) 5] (.tuple #[]) [yAj g (bvs (yHP aa pl)) 5]:=fun g c=>yQG g 244 12 c _ _ 4 zO zO zO _;have c5:∀ g c,CtU prog W 168 [.slice (some ⟨g,248,none⟩) 8 c,.int .u64 aa,zi 8] [yAj g (bvs (yHP aa pl)) 5] (.tuple #[]) [yAj g (bvs (yAF aa pl)) 5]:=fun g c=>yQG g 248 8 c _ _ 8 zO zO zO _;have e3:lay (yG9 aa pl) 10 pl=yDS aa pl:=rfl;obtain ⟨B1,hB1⟩:∃ B,B=yJe aa:=⟨_,rfl⟩;obtain ⟨B2,hB2⟩:∃ B,B=yG9 aa pl:=⟨_,rfl⟩;obtain ⟨B3,hB3⟩:∃ B,B=yDS aa pl:=⟨_,rfl⟩;obtain ⟨B4,hB4⟩:∃ B,B=yHP aa pl:=⟨_,rfl⟩;obtain ⟨B5,hB5⟩:∃ B,B=yAF aa pl:=⟨_,rfl⟩;rw [← hB5];simp only [← hB1,← hB2,← hB3,← hB4,← hB5] at l1 l2 l3 l4 l5 c1 c2 c3 c4 c5 e3;clear hB1 hB2 hB3 hB4 hB5;refine zE func123 ntmps123 fun R=>?_;repeat' (first|(refine yAb ?_;first|refine xca (c5 _ _) fun _=>?_|refine xca (c4 _ _) fun _=>?_|refine xca (c2 _) fun _=>?_|refine xca (c1 _) fun _=>?_)|refine yZw ?_;refine yPp (l':=B3) rfl rfl xS (by show pl.length≤256-10;omega) (by show 10+pl.length≤B2.length;omega) e3 xR rfl ?_|refine yGA ?_;refine yF5 (m:=256) rfl rfl rfl zO rfl (fun g=>?_)|refine yAu ?_;refine yAa (yNN rfl xS (by show 244≤B3.length;omega)) ?_|(refine yBb ?_;first|refine yAa (yR0 rfl rfl zO) ?_|refine yAa (yNL rfl rfl zO) ?_)|refine xqb ?_|refine xsf ?_ ?_|refine xdt [(2,yQF),(4,yQF),(9,yYJ)] ?_|exact xdn ()|apply zN|intro _)
theorem yUi {W:World} {E:Nat→Addr} (hE:ErrsOn L8 W E) (aa:Int) (pl:zB) (h0:aa≠0) (hl:234<pl.length):CtU prog W 123 [.int .u64 aa,strV pl] [] (.tuple #[strV [],yAy E 3]) []:=by have e3:W.cell? ⟨11,0,none⟩=some (yAy E 3):=hE.at_ 3 zX;refine zE func123 ntmps123 fun R=>?_;repeat' (first|refine xqb ?_|refine xsf ?_ ?_|refine xdt [(2,yQF),(4,yQF),(9,yYJ)] ?_|exact xdn ()|apply zN|intro _)
theorem zad {P:Program} {W:World} {n:Nat} {E:Env} {H:List SP} {t u:TypeId} {x y:Operand} {C:Value→Prop} {i j:Int} (m:Nat) (h:C (zi ((m:Nat):Int))) (hx:Env.ev E x=some (zi i):=by exact rfl) (hy:Env.ev E y=some (zi j):=by exact rfl) (hs:i+j=((m:Nat):Int):=by omega) (hb:-9223372036854775808≤((m:Nat):Int)∧((m:Nat):Int)≤9223372036854775807:=by omega):EK P W n E H (.binOp .add t x y u) C:=yAa (yAd hx hy hs hb) h
theorem zml {P:Program} {W:World} {n:Nat} {E:Env} {H:List SP} {t u:TypeId} {x y:Operand} {C:Value→Prop} {i j:Int} (m:Nat) (h:C (zi ((m:Nat):Int))) (hx:Env.ev E x=some (zi i):=by exact rfl) (hy:Env.ev E y=some (zi j):=by exact rfl) (hs:i*j=((m:Nat):Int):=by omega) (hb:-9223372036854775808≤((m:Nat):Int)∧((m:Nat):Int)≤9223372036854775807:=by omega):EK P W n E H (.binOp .mul t x y u) C:=yAa (yAX hx hy hs hb) h
end Go.Proofs.YtoipmnikdiogcaaGreatDoor
