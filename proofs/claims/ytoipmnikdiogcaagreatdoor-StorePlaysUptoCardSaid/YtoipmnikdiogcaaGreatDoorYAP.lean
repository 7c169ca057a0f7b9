/-
  Kinds, More, Wk, Disk0, Disk1.
-/
import Derived.Test.YtoipmnikdiogcaaGreatDoorYAJ
import Derived.Test.YtoipmnikdiogcaaGreatDoorProg
import Derived.WalkKit
import Derived.WalkLawsBesides
import Derived.WalkSpells
import Derived.Maps.OwnSet
import Derived.KernelRfl
import Derived.BigQuiet
import Derived.Deep.QuietTactic
import Derived.Lib.Hide
set_option maxHeartbeats 64000000
namespace Go.Proofs.YtoipmnikdiogcaaGreatDoor
open Go Go.RowKit
open Go.Proofs.Tryz
section
variable {P:Program} {W:World} {n:Nat} {ops:Array Oper} {q:QQ} {E:Env} {H R:List SP} {l:List Oper} {k:KK} {d:Option Tmp} {v:Value}
theorem yPf (h:KJ W n (.list P ops q l) E H):KJ W n (.list P ops q l) E H:=h
theorem yPg {op:Op} (h:KJ W n (.oper P op d k) E H):KJ W n (.oper P op d k) E H:=h
theorem yPh {c:Code} (h:KJ W n (.code P c q) E H):KJ W n (.code P c q) E H:=h
theorem yCu {e:Exit} (h:KJ W n (.ex q e) E H):KJ W n (.ex q e) E H:=h
theorem xCI {p:Pl} (h:FW P W n ops k p E H):FW P W n ops k p E H:=h
theorem yBS {o:Oper} {p:Pl} (h:FO P W n ops k o p E H):FO P W n ops k o p E H:=h
theorem xCJ {o:Oper} {U:List Nat} (h:RO P W n ops o U E H):RO P W n ops o U E H:=h
structure EK (P:Program) (W:World) (n:Nat) (E:Env) (H:List SP) (op:Op) (C:Value→Prop):Prop where
 go:∃ v,Ev P W n E H op v∧C v
theorem yAa {op:Op} {C:Value→Prop} {v:Value} (he:Ev P W n E H op v) (h:C v):EK P W n E H op C:=⟨⟨v,he,h⟩⟩
theorem xCK {op:Op} {d:Nat} (hn:Nat.blt d n=true) (h:EK P W n E H op fun v=>KJ W n k ((d,v)::E) H):KJ W n (.oper P op (some d) k) E H:=by obtain ⟨v,he,h⟩:=h.go;exact yZn he hn h
theorem xBk {op:Op} (h:EK P W n E H op fun _=>KJ W n k E H):KJ W n (.oper P op none k) E H:=by obtain ⟨v,he,h⟩:=h.go;exact xBb he h
section
variable {op:Op} {d:Nat} {ty:TypeId} {pos:String} {af:Array Edge} {p:Pl} {U:List Nat} {j t:Nat} {b:Bool}
theorem xCL (hn:Nat.blt d n=true) (h:EK P W n E H op fun v=>FW P W n ops k p ((d,v)::E) H):FO P W n ops k ⟨some d,op,ty,pos,af,none⟩ p E H:=by obtain ⟨v,he,h⟩:=h.go;exact yFo he hn h
theorem xBl (hj:(ops[j]?).bind (·.dst)=some t) (ht:Env.at E t=some (.bool b)) (hn:Nat.blt d n=true) (h:EK P W n E H op fun v=>FW P W n ops k p ((d,v)::E) H):FO P W n ops k ⟨some d,op,ty,pos,af,some (j,b)⟩ p E H:=by obtain ⟨v,he,h⟩:=h.go;exact xBf hj ht he hn h
def AtR (P:Program) (W:World) (n:Nat) (ops:Array Oper) (E:Env) (H:List SP) (U:List Nat) (d:Nat) (v:Value):Prop:=Env.at E d=some v∧Rech P W n ops E H U
theorem xBm {v:Value} (h1:Env.at E d=some v) (h2:Rech P W n ops E H U):AtR P W n ops E H U d v:=⟨h1,h2⟩
theorem xCM (h:EK P W n E H op (AtR P W n ops E H U d)):RO P W n ops ⟨some d,op,ty,pos,af,none⟩ U E H:=by obtain ⟨v,he,h⟩:=h.go;exact xCG h.1 he h.2
theorem xBn (hj:(ops[j]?).bind (·.dst)=some t) (ht:Env.at E t=some (.bool b)) (h:EK P W n E H op (AtR P W n ops E H U d)):RO P W n ops ⟨some d,op,ty,pos,af,some (j,b)⟩ U E H:=by obtain ⟨v,he,h⟩:=h.go;exact xBj h.1 hj ht he h.2
end
theorem xCN {op:Op} {C:Value→Prop} (h:EK P W n E H op C):EK P W n E H op C:=h
theorem yZt {x:Operand} {C:Value→Prop} (h:EK P W n E H (.move x) C):EK P W n E H (.move x) C:=h
theorem yTP {x:Operand} {C:Value→Prop} (h:EK P W n E H (.assign x) C):EK P W n E H (.assign x) C:=h
theorem yZu {c x y:Operand} {C:Value→Prop} (h:EK P W n E H (.pick c x y) C):EK P W n E H (.pick c x y) C:=h
theorem yPi {x:Operand} {C:Value→Prop} (h:EK P W n E H (.nilCheck x) C):EK P W n E H (.nilCheck x) C:=h
theorem yNF {t:TypeId} {x:Operand} {f:Nat} {C:Value→Prop} (h:EK P W n E H (.fieldAddr t x f) C):EK P W n E H (.fieldAddr t x f) C:=h
theorem yAi {t:TypeId} {x:Operand} {C:Value→Prop} (h:EK P W n E H (.load t x) C):EK P W n E H (.load t x) C:=h
theorem yZv {o:UnOp} {t:TypeId} {x:Operand} {C:Value→Prop} (h:EK P W n E H (.unOp o t x) C):EK P W n E H (.unOp o t x) C:=h
theorem yAu {s d:TypeId} {x:Operand} {C:Value→Prop} (h:EK P W n E H (.convert s d x) C):EK P W n E H (.convert s d x) C:=h
theorem yRP {x:Operand} {i:Nat} {C:Value→Prop} (h:EK P W n E H (.extract x i) C):EK P W n E H (.extract x i) C:=h
theorem yI8 {t:TypeId} {x y:Operand} {C:Value→Prop} (h:EK P W n E H (.indexAddr t x y) C):EK P W n E H (.indexAddr t x y) C:=h
theorem yAI {t:TypeId} {x y:Operand} {C:Value→Prop} (h:EK P W n E H (.index t x y) C):EK P W n E H (.index t x y) C:=h
theorem yBb {t:TypeId} {x:Operand} {a b c:Option Operand} {C:Value→Prop} (h:EK P W n E H (.slice t x a b c) C):EK P W n E H (.slice t x a b c) C:=h
theorem yWJ {t:TypeId} {x:Operand} {f:Nat} {C:Value→Prop} (h:EK P W n E H (.field t x f) C):EK P W n E H (.field t x f) C:=h
theorem yRQ {t:TypeId} {x:Operand} {C:Value→Prop} (h:EK P W n E H (.makeInterface t x) C):EK P W n E H (.makeInterface t x) C:=h
theorem yCL {f:Fn} {a b:Array Operand} {C:Value→Prop} (h:EK P W n E H (.makeFunc f a b) C):EK P W n E H (.makeFunc f a b) C:=h
theorem yAL {t:TypeId} {ps:Array (Nat × Operand)} {C:Value→Prop} (h:EK P W n E H (.build t ps) C):EK P W n E H (.build t ps) C:=h
theorem xBo {xs:Array Operand} {ts:Array TypeId} {C:Value→Prop} (h:EK P W n E H (.call { callee:=.builtin .len,args:=xs,argTypes:=ts }) C):EK P W n E H (.call { callee:=.builtin .len,args:=xs,argTypes:=ts }) C:=h
theorem yDg {xs:Array Operand} {ts:Array TypeId} {C:Value→Prop} (h:EK P W n E H (.call { callee:=.builtin .min,args:=xs,argTypes:=ts }) C):EK P W n E H (.call { callee:=.builtin .min,args:=xs,argTypes:=ts }) C:=h
theorem yTQ {xs:Array Operand} {ts:Array TypeId} {C:Value→Prop} (h:EK P W n E H (.call { callee:=.builtin .max,args:=xs,argTypes:=ts }) C):EK P W n E H (.call { callee:=.builtin .max,args:=xs,argTypes:=ts }) C:=h
theorem yAr {t u:TypeId} {x y:Operand} {C:Value→Prop} (h:EK P W n E H (.binOp .add t x y u) C):EK P W n E H (.binOp .add t x y u) C:=h
theorem yCj {t u:TypeId} {x y:Operand} {C:Value→Prop} (h:EK P W n E H (.binOp .sub t x y u) C):EK P W n E H (.binOp .sub t x y u) C:=h
theorem yBN {t u:TypeId} {x y:Operand} {C:Value→Prop} (h:EK P W n E H (.binOp .mul t x y u) C):EK P W n E H (.binOp .mul t x y u) C:=h
theorem yEm {t u:TypeId} {x y:Operand} {C:Value→Prop} (h:EK P W n E H (.binOp .quo t x y u) C):EK P W n E H (.binOp .quo t x y u) C:=h
theorem yBu {t u:TypeId} {x y:Operand} {C:Value→Prop} (h:EK P W n E H (.binOp .rem t x y u) C):EK P W n E H (.binOp .rem t x y u) C:=h
theorem yI9 {t u:TypeId} {x y:Operand} {C:Value→Prop} (h:EK P W n E H (.binOp .and t x y u) C):EK P W n E H (.binOp .and t x y u) C:=h
theorem yFp {t u:TypeId} {x y:Operand} {C:Value→Prop} (h:EK P W n E H (.binOp .or t x y u) C):EK P W n E H (.binOp .or t x y u) C:=h
theorem yNG {t u:TypeId} {x y:Operand} {C:Value→Prop} (h:EK P W n E H (.binOp .xor t x y u) C):EK P W n E H (.binOp .xor t x y u) C:=h
theorem yCo {t u:TypeId} {x y:Operand} {C:Value→Prop} (h:EK P W n E H (.binOp .shl t x y u) C):EK P W n E H (.binOp .shl t x y u) C:=h
theorem yLE {t u:TypeId} {x y:Operand} {C:Value→Prop} (h:EK P W n E H (.binOp .shr t x y u) C):EK P W n E H (.binOp .shr t x y u) C:=h
theorem yAt {t u:TypeId} {x y:Operand} {C:Value→Prop} (h:EK P W n E H (.binOp .eql t x y u) C):EK P W n E H (.binOp .eql t x y u) C:=h
theorem yAo {t u:TypeId} {x y:Operand} {C:Value→Prop} (h:EK P W n E H (.binOp .neq t x y u) C):EK P W n E H (.binOp .neq t x y u) C:=h
theorem yAh {t u:TypeId} {x y:Operand} {C:Value→Prop} (h:EK P W n E H (.binOp .lss t x y u) C):EK P W n E H (.binOp .lss t x y u) C:=h
theorem yBz {t u:TypeId} {x y:Operand} {C:Value→Prop} (h:EK P W n E H (.binOp .leq t x y u) C):EK P W n E H (.binOp .leq t x y u) C:=h
theorem yAq {t u:TypeId} {x y:Operand} {C:Value→Prop} (h:EK P W n E H (.binOp .gtr t x y u) C):EK P W n E H (.binOp .gtr t x y u) C:=h
theorem yAJ {t u:TypeId} {x y:Operand} {C:Value→Prop} (h:EK P W n E H (.binOp .geq t x y u) C):EK P W n E H (.binOp .geq t x y u) C:=h
theorem yDm {t:TypeId} {x y:Operand} {dd:Option Tmp} (h:KJ W n (.oper P (.store t x y) dd k) E H):KJ W n (.oper P (.store t x y) dd k) E H:=h
theorem yAw {t:TypeId} {dd:Option Tmp} (h:KJ W n (.oper P (.alloc t) dd k) E H):KJ W n (.oper P (.alloc t) dd k) E H:=h
theorem yAW {t:TypeId} {x:Operand} {dd:Option Tmp} (h:KJ W n (.oper P (.box t x) dd k) E H):KJ W n (.oper P (.box t x) dd k) E H:=h
theorem yAb {f:FuncId} {xs:Array Operand} {ts:Array TypeId} {dd:Option Tmp} (h:KJ W n (.oper P (.call { callee:=.value (.func f),args:=xs,argTypes:=ts }) dd k) E H):KJ W n (.oper P (.call { callee:=.value (.func f),args:=xs,argTypes:=ts }) dd k) E H:=h
theorem yAQ {xs:Array Operand} {ts:Array TypeId} {dd:Option Tmp} (h:KJ W n (.oper P (.call { callee:=.builtin .append,args:=xs,argTypes:=ts }) dd k) E H):KJ W n (.oper P (.call { callee:=.builtin .append,args:=xs,argTypes:=ts }) dd k) E H:=h
theorem yZw {xs:Array Operand} {ts:Array TypeId} {dd:Option Tmp} (h:KJ W n (.oper P (.call { callee:=.builtin .copy,args:=xs,argTypes:=ts }) dd k) E H):KJ W n (.oper P (.call { callee:=.builtin .copy,args:=xs,argTypes:=ts }) dd k) E H:=h
theorem yGA {t:TypeId} {x y:Operand} {dd:Option Tmp} (h:KJ W n (.oper P (.makeSlice t x y) dd k) E H):KJ W n (.oper P (.makeSlice t x y) dd k) E H:=h
theorem yWK {t:TypeId} {x:Option Operand} {dd:Option Tmp} (h:KJ W n (.oper P (.makeMap t x) dd k) E H):KJ W n (.oper P (.makeMap t x) dd k) E H:=h
theorem yAD {t:TypeId} {m:Nat} {ps:Array (Nat × Operand)} {dd:Option Tmp} (h:KJ W n (.oper P (.buildSlice t m ps) dd k) E H):KJ W n (.oper P (.buildSlice t m ps) dd k) E H:=h
theorem yJa {t:TypeId} {x y z:Operand} {dd:Option Tmp} (h:KJ W n (.oper P (.mapUpdate t x y z) dd k) E H):KJ W n (.oper P (.mapUpdate t x y z) dd k) E H:=h
theorem yHF {s d:TypeId} {x:Operand} {dd:Option Tmp} (h:KJ W n (.oper P (.convert s d x) dd k) E H):KJ W n (.oper P (.convert s d x) dd k) E H:=h
end
class BuIs (P:Program) (t:TypeId) (zs:outParam (List Value)) (places:outParam (List (Nat × Nat))):Prop where h:∀ parts,P.built t parts=Instr.fill (places.toArray[·]?) zs.toArray parts
inductive EvP (E:Env):List (Nat × Operand)→List (Nat × Value)→Prop
 |nil:EvP E [] []
 |cons {i:Nat} {x:Operand} {v:Value} {ps:List (Nat × Operand)} {vs:List (Nat × Value)}:Env.ev E x=some v→EvP E ps vs→EvP E ((i,x)::ps) ((i,v)::vs)
inductive Fills (places:List (Nat × Nat)):List Value→List (Nat × Value)→List Value→Prop
 |nil {zs:List Value}:Fills places zs [] zs
 |cons {i off m:Nat} {v:Value} {zs zs' ws vs:List Value} {ps:List (Nat × Value)}:places[i]? = some (off,m)→CellsOf v ws→ws.length=m→Laid zs off ws zs'→Fills places zs' ps vs→Fills places zs ((i,v)::ps) vs
theorem xV {E:Env} {ps:List (Nat × Operand)} {pv:List (Nat × Value)} (h:EvP E ps pv:=by (repeat' (first|exact EvP.nil|(apply EvP.cons;exact rfl)));first|done|fail):EvP E ps pv:=h
theorem xW {places:List (Nat × Nat)} {zs vs:List Value} {ps:List (Nat × Value)} (h:Fills places zs ps vs:=by (repeat' (first|exact Fills.nil|(apply Fills.cons;exact rfl;(first|exact CellsOf.agg|exact CellsOf.one rfl);exact rfl;(repeat' (first|exact Laid.nil|apply Laid.cons|apply Laid.skip)))));first|done|fail):Fills places zs ps vs:=h
theorem Fills.fill {places:List (Nat × Nat)} {zs vs:List Value} {ps:List (Nat × Value)} (h:Fills places zs ps vs):Instr.fill (places.toArray[·]?) zs.toArray ps=some vs.toArray:=by
 induction h with
 |nil=>rfl
 |cons hp hv hl hL hf ih=>
  rename_i i off m v zs zs' ws vs ps;obtain ⟨ak,rfl⟩:=hL.spec;have hc:=hv.spec;unfold Instr.fill;have jh:places.toArray[i]? = some (off,m):=by simpa using hp
  simp only [jh];rw [if_neg (by simp [hc,hl];omega)];rw [hc];have e:((ws.toArray.zipIdx).foldl (fun cs (x:Value × Nat)=>cs.setIfInBounds (off+x.2) x.1) zs.toArray)=(lay zs off ws).toArray:=by
   rw [← Array.foldl_toList];simp only [Array.toList_zipIdx];have key:∀ (l:List Value) (k:Nat) (base:Array Value),off+k+l.length≤base.size→((l.zipIdx k).foldl (fun cs (x:Value × Nat)=>cs.setIfInBounds (off+x.2) x.1) base).toList=base.toList.take (off+k)++(l++base.toList.drop (off+k+l.length)):=by
    intro l
    induction l with
    |nil=>intro k base h;simp
    |cons v l ih2=>
     intro k base h;simp only [zLj] at h;rw [List.zipIdx_cons,List.foldl_cons,ih2 (k+1) _ (by simp;omega)];simp only [Array.toList_setIfInBounds,zLj];have e1:(base.toList.set (off+k) v).take (off+(k+1))=base.toList.take (off+k)++[v]:=by rw [List.take_set,show off+(k+1)=off+k+1 by omega];rw [List.take_succ_eq_append_getElem (by simp;omega),List.set_append_right _ _ (by simp;omega)];simp [show min (off+k) base.size=off+k by omega]
     have e2:(base.toList.set (off+k) v).drop (off+(k+1)+l.length)=base.toList.drop (off+k+(l.length+1)):=by rw [List.drop_set_of_lt zO];congr 1;omega
     rw [e1,e2];simp
   have:=key ws 0 zs.toArray (by simpa using ak);rw [← Array.toList_inj];simpa [lay] using this
  rw [e];exact ih
section
variable {P:Program} {W:World} {n:Nat} {E:Env} {H R:List SP} {k:KK} {x y z:Operand} {t e T:TypeId} {b off d m c:Nat}
theorem EvP.map {a:Act} (p:Hd n E a) {ps:List (Nat × Operand)} {pv:List (Nat × Value)} (h:EvP E ps pv):ps.map (fun (i,x)=>(i,a.eval x))=pv:=by
 induction h with
 |nil=>rfl
 |cons hx _ ih=>simp [p.ev hx,ih]
theorem yAM {ps:List (Nat × Operand)} {pv:List (Nat × Value)} {zs vs:List Value} {places:List (Nat × Nat)} (hp:EvP E ps pv) [hb:BuIs P t zs places] (hf:Fills places zs pv vs):Ev P W n E H (.build t ps.toArray) (.agg vs.toArray):=
 Ev.mk fun o ho a w p _=>by
  have e:(ps.toArray.map fun (i,x)=>(i,a.eval x)).toList=pv:=by rw [← hp.map p];simp
  have h1:=run_build (P:=P) w t (ps.toArray.map fun (i,x)=>(i,a.eval x)) vs.toArray (by rw [e,hb.h];exact hf.fill);simp only [execOp,ho,Sem.run_bind,h1,Result.andThen_ok,Sem.run_pure]
theorem yMx (m:Nat):(madeCells #[Value.int .u8 0] m).toList=bvs (List.replicate m 0):=by
 apply List.ext_getElem
 ·simp [madeCells]
 ·intro i h1 h2;simp [madeCells,bvs,bv,Nat.mod_one]
theorem yF5 {C:Int} (hx:Env.ev E x=some (.int .i64 C)) (hy:Env.ev E y=some (.int .i64 C)) [hu:UIs P t (.slice e)] [hs:SzIs P e 1] [hb:ByIs P e 1] [hz:ZcIs P e [.int .u8 0]] (hC:C=(m:Int)) (hm:m≤140737488355328) (hn:Nat.blt d n=true) (h:∀ g,KJ W n k ((d,.slice (zq g) m m)::E) (yAj g (bvs (List.replicate m 0)) e::H)):KJ W n (.oper P (.makeSlice t x y) (some d) k) E H:=by
 refine ⟨fun a w p s o ho hd=>?_⟩;have hz:=hz.h;have hs:=hs.h;have hb:=hb.h;cases hq:P.info? e with
 |none=>simp [hq] at hz
 |some i=>
  simp [hq] at hz hs hb;obtain ⟨zv,dN,eb⟩:=hz;obtain ⟨w',h1,h2,h3⟩:=run_make_full (P:=P) w 0 t e i zv 1 hu.h hq dN hs .i64 .i64 m (by rw [hb];omega) (by unfold maxLen;omega) (zLA _);show uponP P o a _ ((execOp a.eval o).run P w);have av:(execOp a.eval o).run P w=.ok (.value (.slice (some ⟨w.heap.size,0,none⟩) m m)) w':=by simp only [execOp,ho,p.ev hx,p.ev hy,hC,Sem.run_bind,h1,Result.andThen_ok,Sem.run_pure]
  rw [av];have gZ:w'.heap[w.heap.size]? = some (.cells (bvs (List.replicate m 0)).toArray e (0,0)):=by
   rw [eb] at h2;rcases h2.2 with ⟨q,_⟩|⟨g,cap,aw,hv,_,hh,_,_,bu,bZ⟩
   ·cases q
   ·cases hv;rw [hh];have:aw.toList=bvs (List.replicate m 0):=by rw [← yMx,← Nat.mul_one m,← bZ,zLi (by simp [bu])]
    rw [← this]
  have st:St W (yAj w.heap.size (bvs (List.replicate m 0)) e::(H++dm a.defers)) w':=by
   obtain ⟨iI,h2',dj,hA,hH,l1,l2⟩:=(show St W ([]++(H++dm a.defers)) w from s).split
   exact St.join (B:=[yAj w.heap.size (bvs (List.replicate m 0)) e]) (g:=Hl.one w.heap.size (.cells (bvs (List.replicate m 0)).toArray e (0,0))) s.below dj hH l1 l2 (yBP (Hl.one_self _ _)) h3.os h3.tape h3.output h3.size
    (fun k o q=>by obtain ⟨rfl,rfl⟩:=Hl.one_some q;exact gZ) (fun k o q=>by obtain ⟨rfl,rfl⟩:=Hl.one_some q;exact .inr (Nat.le_refl _)) (fun k hk _=>h3.block k hk zW)
  have:=(h w.heap.size).go _ w' (p.put (d:=some d) hn _) st;rw [← hd] at this;exact this
theorem yHj {s u:TypeId} {l:zB} (hx:Env.ev E x=some (.slice (some ⟨b,off,none⟩) m c)) [hs:UIs P s (.slice e)] [he:UIs P e (.int .u8)] [hd:UIs P u .string] (gG:Sel (yAj b (bvs l) T) H R) (hm:off+m≤l.length):Ev P W n E H (.convert s u x) (strV ((l.drop off).take m)):=
 Ev.mk fun o ho a w p q=>by
  have ai:((l.drop off).take m).length=m:=by simp;omega
  have hr:=run_convert_bytes_back (P:=P) w s u e ⟨b,off,none⟩ c ((l.drop off).take m) hs.h he.h hd.h (fun j hj=>by rw [Addr.add_mid,(q.blk gG).2.cell];rw [ai] at hj;simp [bvs,bv,show off+j<l.length by omega])
  rw [ai] at hr;simp only [execOp,ho,p.ev hx,Sem.run_bind,hr,Result.andThen_ok,Sem.run_pure]
theorem yJb {s u:TypeId} {l:zB} (hx:Env.ev E x=some (.slice (zq b) m c)) [hs:UIs P s (.slice e)] [he:UIs P e (.int .u8)] [hd:UIs P u .string] (gG:Sel (yAj b (bvs l) T) H R) (hm:m=l.length):Ev P W n E H (.convert s u x) (strV l):=by have:=yHj (P:=P) (W:=W) (n:=n) (E:=E) (H:=H) (x:=x) (off:=0) hx (hs:=hs) (he:=he) (hd:=hd) gG zO;rw [zLo,zLi zO] at this;exact this
theorem yHG {u:TypeId} {a b:zB} (hx:Env.ev E x=some (strV a)) (hy:Env.ev E y=some (strV b)) (h:a=b):Ev P W n E H (.binOp .eql t x y u) (.bool true):=by have:=yO2 (P:=P) (W:=W) (n:=n) (E:=E) (H:=H) (t:=t) (u:=u) hx hy;rw [zY h] at this;exact this
theorem yDO {u:TypeId} {a b:zB} (hx:Env.ev E x=some (strV a)) (hy:Env.ev E y=some (strV b)) (h:a=b):Ev P W n E H (.binOp .neq t x y u) (.bool false):=by have:=yMn (P:=P) (W:=W) (n:=n) (E:=E) (H:=H) (t:=t) (u:=u) hx hy;rw [zZ (by simpa using h)] at this;exact this
theorem yCM {u:TypeId} {kd:IntKind} {i j:Int} (hx:Env.ev E x=some (.int kd i)) (hy:Env.ev E y=some (.int kd j)) (h:i=j):Ev P W n E H (.binOp .eql t x y u) (.bool true):=by have:=yMl (P:=P) (W:=W) (n:=n) (E:=E) (H:=H) (t:=t) (u:=u) hx hy;rw [zY h] at this;exact this
theorem yAz {u:TypeId} {kd:IntKind} {i j:Int} (hx:Env.ev E x=some (.int kd i)) (hy:Env.ev E y=some (.int kd j)) (h:i=j):Ev P W n E H (.binOp .neq t x y u) (.bool false):=by have:=yMm (P:=P) (W:=W) (n:=n) (E:=E) (H:=H) (t:=t) (u:=u) hx hy;rw [zZ (by simpa using h)] at this;exact this
structure Src (W:World) (H:List SP) (xa:Option Addr) (news:List Value):Prop where
 go:news≠[]→∃ b o,xa=some ⟨b,o,none⟩∧∀ w,St W H w→w.rangeAt b o news
theorem Src.cells {cs news:List Value} {i:Nat} (hs:Sel (yAj b cs T) H R) (hc:Cut cs off i news):Src W H (some ⟨b,off,none⟩) news:=⟨fun _=>⟨b,off,rfl,fun w q j v hj=>by rw [(q.blk hs).2.cell];exact hc.spec.2 j v hj⟩⟩
theorem Src.old {news:List Value} (hc:W.rangeAt b off news):Src W H (some ⟨b,off,none⟩) news:=⟨fun _=>⟨b,off,rfl,fun _ q=>q.oldRange hc⟩⟩
theorem Src.nil {xa:Option Addr}:Src W H xa []:=⟨fun h=>absurd rfl h⟩
theorem yCN {v:Value} {i l size bytes:Nat} {xs news:List Value} {a2 c2:Nat} {xa:Option Addr} (hx:Env.ev E x=some v) (hy:Env.ev E y=some (.slice xa l c2)) [hu:UIs P t (.slice e)] [hs:SzIs P e size] [hb:ByIs P e bytes] {zs:List Value} [hz:ZcIs P e zs] (bu:zs.length=size) (h0:0<size) (ap:Sel (yA4 v e size i xs) H R) (dD:Src W H xa news) (hl:news.length=l*size) (gc:0<l) (h1:Ones news) (jo:(i+l)*bytes≤140737488355328) (h64:i+l≤9223372036854775807) (hn:Nat.blt d n=true) (_ha:a2=a2) (h:∀ g c,KJ W n k ((d,.slice (zq g) (i+l) c)::E) (yA4 (.slice (zq g) (i+l) c) e size (i+l) (xs++news)::R)):KJ W n (.oper P (.call { callee:=.builtin .append,args:=#[x,y],argTypes:=#[t,t] }) (some d) k) E H:=by
 refine ⟨fun a w p s o ho hd=>?_⟩;have hz:=hz.h;have hs:=hs.h;have hb:=hb.h
 replace ap:=ap.app (dm a.defers)
 have aC:=s.row ap;have ao:news≠[]:=by intro q;subst q;have:=Nat.mul_pos gc h0;simp at hl;omega
 obtain ⟨sb,so,rfl,kl⟩:=dD.go ao;cases hq:P.info? e with
 |none=>simp [hq] at hz
 |some it=>
  simp [hq] at hz hs hb;obtain ⟨zv,dN,eb⟩:=hz;obtain ⟨v',w',av,aA,bh,-,eY⟩:=run_append_own_at (P:=P) w W.heap.size t o.type e it zv size bytes hu.h hq dN hs hb (by rw [eb];simpa using bu) h0 v i xs aC ⟨sb,so,none⟩ l c2 news hl (fun j u hj=>by rw [Addr.add_mid];exact kl w s.left j u hj) h1.all (by unfold maxLen;omega) jo s.size;have fg:∃ g c,v'=.slice (zq g) (i+l) c:=by
   rcases aA.2 with ⟨_,q⟩|⟨g,cap,aw,hv,_⟩
   ·omega
   ·exact ⟨g,cap,hv⟩
  obtain ⟨g,cc,rfl⟩:=fg;show uponP P o a _ ((execOp a.eval o).run P w);have aN:(execOp a.eval o).run P w=.ok (.value (.slice (zq g) (i+l) cc)) w':=by simp only [execOp,ho,resolve,invoke,builtin,Sem.run_bind,Sem.run_pure,Result.andThen_ok,List.map_toArray,List.map_cons,List.map_nil,p.ev hx,p.ev hy,av]
  rw [aN];have st:St W (yA4 (.slice (zq g) (i+l) cc) e size (i+l) (xs++news)::(R++dm a.defers)) w':=by
   obtain ⟨g1,g2,dj,hA,hH,l1,l2⟩:=(show St W ([yA4 v e size i xs]++(R++dm a.defers)) w from s.perm ap.perm).split;rcases aA.2 with ⟨_,q⟩|⟨g',cap,aw,hv,fD,hh,hrest⟩
   ·omega
   ·cases hv;have yDw:∀ gg,v.ownBlock=some gg→∃ o,g1 gg=some o:=by
     intro gg hgg;obtain ⟨ha,_,_,le,_,⟨_,hd⟩,_⟩:=hA;rcases hd with ⟨aR,_⟩|⟨g'',je,cur',aR,hh0,_⟩
     ·rw [aR] at hgg;simp [Value.ownBlock] at hgg
     ·rw [aR] at hgg;simp [Value.ownBlock] at hgg;subst hgg;exact ⟨_,le _ _ hh0⟩
    refine St.join (B:=[yA4 (.slice (zq g) (i+l) cc) e size (i+l) (xs++news)]) (g:=Hl.one g (.cells aw e (0,0))) s.below dj hH l1 l2 (yBP ⟨aA.1,.inr ⟨g,cc,aw,rfl,Hl.one_self _ _,hrest⟩⟩) bh.os bh.tape bh.output bh.size ?_ ?_ ?_
    ·intro kk o q;obtain ⟨rfl,rfl⟩:=Hl.one_some q;exact hh
    ·intro kk o q;obtain ⟨rfl,rfl⟩:=Hl.one_some q;rcases eY with hl|hl
     ·exact .inl (yDw kk (by rw [← hl];rfl))
     ·have:kk=w.heap.size:=by simpa [Value.ownBlock] using hl
      exact .inr zO
    ·intro kk hk aT;refine bh.block kk hk (fun e=>?_);obtain ⟨o,ho⟩:=yDw kk e.symm;rw [aT] at ho;cases ho
  have:=(h g cc).go _ w' (p.put (d:=some d) hn _) st;rw [← hd] at this;exact this
theorem yCB {g i size:Nat} {xs:List Value} {v:Value} (hx:Env.ev E x=some (.pointer (some ⟨g,off,none⟩))) [hu:ScIs P t] (hs:Sel (yA4 (.slice (zq g) i c) e size i xs) H R) (hv:xs[off]? = some v):Ev P W n E H (.load t x) v:=
 Ev.mk fun o ho a w p q=>by
  obtain ⟨d,hu,hd⟩:=hu.h;have hr:=q.row hs;have hc:w.cell? ⟨g,off,none⟩=some v:=by
   have:=hr.cells (g:=g) rfl off v hv
   rwa [Addr.add_mid,zLq] at this
  simp [execOp,ho,p.ev hx,yCg w hc hu hd,Result.andThen]
theorem yBO {g i size:Nat} {xs vs:List Value} (hx:Env.ev E x=some (.pointer (some ⟨g,off,none⟩))) [hu:AgIs P t] [hi:SzIs P t m] (hs:Sel (yA4 (.slice (zq g) i c) e size i xs) H R) (hv:∀ j v,vs[j]? = some v→xs[off+j]? = some v) (hl:vs.length=m):Ev P W n E H (.load t x) (.agg vs.toArray):=
 Ev.mk fun o ho a w p q=>by
  obtain ⟨d,hu,hd⟩:=hu.h;have hr:=q.row hs;have hc:w.rangeAt g off vs:=fun j v hj=>by
   have:=hr.cells (g:=g) rfl (off+j) v (hv j v hj)
   rwa [Addr.add_mid,zLq] at this
  have:=run_loadAt_mid (P:=P) w g off t vs d hc hu (yJx hd) (by rw [hl];exact hi.h);simp [execOp,ho,p.ev hx,this,Result.andThen]
theorem yAK {v:Value} {vs:List Value} (hx:Env.ev E x=some v) [hu:UIs P t (.slice e)] [hs:SzIs P e m] {zs:List Value} [hz:ZcIs P e zs] (hv:CellsOf v vs) (hl:vs.length=m) (hm:0<m∧m≤16777216) (hn:Nat.blt d n=true) (h:∀ g,KJ W n k ((d,.slice (zq g) 1 1)::E) (yAj g vs e::H)):KJ W n (.oper P (.buildSlice t 1 #[(0,x)]) (some d) k) E H:=by
 refine ⟨fun a w p s o ho hd=>?_⟩;have hz:=hz.h;have hs:=hs.h;cases hq:P.info? e with
 |none=>simp [hq] at hz
 |some it=>
  simp [hq] at hz hs;obtain ⟨zv,dN,eb⟩:=hz;have hr:=yEA (P:=P) w t e it zv v hu.h hq dN (by rw [hv.spec];simp;omega) zO zO;show uponP P o a _ ((execOp a.eval o).run P w);have aN:(execOp a.eval o).run P w=.ok (.value (.slice (some ⟨w.heap.size,0,none⟩) 1 1)) (w.alloc (.cells vs.toArray e)):=by rw [hv.spec] at hr;simp only [execOp,ho,List.map_toArray,List.map_cons,List.map_nil,p.ev hx,Sem.run_bind,Sem.run_pure,Result.andThen_ok,hr]
  rw [aN];have:=(h w.heap.size).go _ _ (p.put (d:=some d) hn _) s.new;rw [← hd] at this;exact this
end
theorem xdr {P:Program} {W:World} {n:Nat} {E:Env} {H:List SP} {l:List Oper} {q:QQ} (id:Nat) (p:Pl) (h:FW P W n l.toArray (.ex q .normal) p E H) (hm:P.follows .mixedOrders=true:=by kernel_rfl) (hB:yRO l p=true:=by kernel_rfl):KJ W n (.code P (Code.region id l.toArray true) q) E H:=yWH p hm hB h
theorem xdt {P:Program} {W:World} {n:Nat} {E:Env} {H:List SP} {l:List Oper} {q:QQ} {id:Nat} {p:Pl} (T:List (Nat×Pl)) (h:FW P W n l.toArray (.ex q .normal) p E H) (_hp:T.lookup id=some p:=by rfl) (hm:P.follows .mixedOrders=true:=by kernel_rfl) (hB:yRO l p=true:=by kernel_rfl):KJ W n (.code P (Code.region id l.toArray true) q) E H:=yWH p hm hB h
theorem xca {X:Type} {P:Program} {W:World} {n d:Nat} {E:Env} {H R:List SP} {k:KK} {f:FuncId} {xs:List Operand} {ts:Array TypeId} {vs:List Value} {Hpre:List SP} {r:X→Value} {Hp:X→List SP} [hf:FnIs P f] (hc:Ct P W f vs Hpre r Hp) (h:∀ c,KJ W n k ((d,r c)::E) (Hp c++R)) (hn:Nat.blt d n=true:=by rfl) (hx:Evs E xs vs:=by (repeat' (first|exact Evs.nil|refine Evs.cons rfl ?_));first|done|fail) (hp:Pick Hpre H R:=by (repeat' (first|exact Pick.nil|apply Pick.cons|exact Sel.here|apply Sel.there));first|done|fail):KJ W n (.oper P (.call { callee:=.value (.func f),args:=xs.toArray,argTypes:=ts }) (some d) k) E H:=yZq hx hc hp hn h
theorem xcp {P:Program} {W:World} {n d:Nat} {E:Env} {H R:List SP} {k:KK} {f:FuncId} {xs:List Operand} {ts:Array TypeId} {vs:List Value} {Hpre:List SP} {r:Value} {B:List SP} [hf:FnIs P f] (h:KJ W n k ((d,r)::E) (B++R)) (hx:Evs E xs vs:=by (repeat' (first|exact Evs.nil|(apply Evs.cons;exact rfl)));first|done|fail) (hc:CtU P W f vs Hpre r B:=by assumption) (hn:Nat.blt d n=true:=by rfl) (hp:Pick Hpre H R:=by (repeat' (first|exact Pick.nil|apply Pick.cons|exact Sel.here|apply Sel.there));first|done|fail):KJ W n (.oper P (.call { callee:=.value (.func f),args:=xs.toArray,argTypes:=ts }) (some d) k) E H:=yZq hx hc hp hn (fun _=>h)
abbrev zN:=@Rech.nil
structure Later (A:Prop):Prop where
 go:A
theorem xst {A G:Prop} (g:A) (h:Later A→G:=by
 intro h;first
 |(refine yQp (by first|constructor|fail) ?_;exact h.go)
 |(
  refine xCN ?_;first
   |(refine yZt ?_;first|refine yAa (yIx rfl) ?_)
   |(refine yTP ?_;first|refine yAa (yTu rfl) ?_)
   |(refine yZu ?_;first|refine yAa (yTv rfl rfl) ?_|refine yAa (yTw rfl rfl) ?_)
   |(refine yPi ?_;first|refine yAa (yHg rfl) ?_)
   |(refine yNF ?_;first|refine yAa (yMs rfl) ?_)
   |(refine yAi ?_;first|refine yAa (yDC rfl xS (by rfl)) ?_|refine yAa (yAm rfl (by assumption)) ?_|refine yAa (yRL rfl xS xC) ?_)
   |(refine yZv ?_;first|refine yAa (yZo rfl) ?_|refine yAa (yYu rfl) ?_|refine yAa (xBd rfl) ?_)
   |(refine yAu ?_;first|refine yAa (yCA rfl zO) ?_|refine yAa (yQr rfl) ?_|refine yAa (yWA rfl) ?_)
   |(refine yRP ?_;first|refine yAa (yRG rfl rfl) ?_)
   |(refine yI8 ?_;first|refine yAa (yMt rfl rfl zO) ?_|refine yAa (yJV rfl rfl zO) ?_)
   |(refine yWJ ?_;first|refine yAa (yPa rfl rfl) ?_)
   |(refine yRQ ?_;first|refine yAa (yNx rfl rfl) ?_)
   |(refine xBo ?_;first|refine yAa (yRH rfl) ?_|refine yAa (yNw rfl) ?_|refine yAa (yRI rfl) ?_|refine yAa (yRJ rfl xS) ?_)
   |(refine yDg ?_;first|refine yAa (yQs rfl rfl) ?_)
   |(refine yTQ ?_;first|refine yAa (yYv rfl rfl) ?_)
   |(refine yAr ?_;first|refine yAa (yTx rfl rfl zO) ?_|refine yAa (yFk rfl rfl (by simp <;> omega)) ?_|refine yAa (yQq rfl rfl) ?_)
   |(refine yCj ?_;first|refine yAa (yTy rfl rfl zO) ?_|refine yAa (yYs rfl rfl) ?_)
   |(refine yBN ?_;first|refine yAa (yTz rfl rfl zO) ?_|refine yAa (yYt rfl rfl) ?_)
   |(refine yEm ?_;first|refine yAa (yO0 rfl rfl zO) ?_|refine yAa (yTA rfl rfl zO) ?_)
   |(refine yBu ?_;first|refine yAa (yFX rfl rfl zO) ?_|refine yAa (xBc rfl rfl zO) ?_)
   |(refine yCo ?_;first|refine yAa (yTF rfl rfl zO) ?_)
   |(refine yLE ?_;first|refine yAa (yTG rfl rfl zO) ?_)
   |(refine yAt ?_;first|refine yAa (yMl rfl rfl) ?_|refine yAa (yO2 rfl rfl) ?_|refine yAa (yJR rfl rfl) ?_|refine yAa (Ev_eqlB rfl rfl) ?_|refine yAa (yO3 rfl rfl rfl (fun _=>rfl)) ?_)
   |(refine yAo ?_;first|refine yAa (yMm rfl rfl) ?_|refine yAa (yMn rfl rfl) ?_|refine yAa (yBZ rfl rfl) ?_|refine yAa (Ev_neqB rfl rfl) ?_|refine yAa (yO4 rfl rfl rfl (fun _=>rfl)) ?_)
   |(refine yAh ?_;first|refine yAa (yTB rfl rfl) ?_|refine yAa (yTH rfl rfl) ?_)
   |(refine yBz ?_;first|refine yAa (yTC rfl rfl) ?_|refine yAa (yTK rfl rfl) ?_)
   |(refine yAq ?_;first|refine yAa (yTD rfl rfl) ?_|refine yAa (yTI rfl rfl) ?_)
   |(refine yAJ ?_;first|refine yAa (yTE rfl rfl) ?_|refine yAa (yTJ rfl rfl) ?_)
   |(refine yAL ?_;refine yAa (yAM xV xW) ?_)
  exact h.go)
 |(refine yCu ?_;refine KJ_blk_exit' rfl ?_;exact h.go)
 |(refine xCI ?_;(first|refine yB8 rfl ?_|refine yQw ?_|refine xCF rfl ?_|refine xBg rfl rfl rfl ?_);exact h.go)
 |(refine xBm rfl ?_;exact h.go)
 |(refine yTN rfl ?_;exact h.go)
 |(refine yAb ?_;exact xcp h.go)
 |(refine yPg ?_;(first|(refine yAw ?_;refine yAv rfl ?_)|(refine yAW ?_;refine yAU rfl xF rfl ?_)|(refine yDm ?_;refine yQv rfl rfl xS xF (by rfl) xO xL xR ?_)|refine xCK rfl ?_|refine xBk ?_);exact h.go)
 |(refine yPh ?_;first|(refine yJM rfl ?_ ?_;first|(exact (fun _=>zF);exact h.go)|(rotate_left;exact (fun _=>zF);exact h.go))|((fail_if_success refine yJM rfl ?_ ?_);(first|refine yTr rfl ?_|refine yTs rfl ?_);exact h.go))
 |(refine yPf ?_;first|(refine yG4 rfl rfl rfl ?_ ?_;first|(exact (fun _=>zF);exact h.go)|(rotate_left;exact (fun _=>zF);exact h.go))|(refine yG5 rfl rfl rfl ?_ ?_;first|(exact (fun _=>zF);exact h.go)|(rotate_left;exact (fun _=>zF);exact h.go))|((fail_if_success (first|refine yG4 rfl rfl rfl ?_ ?_|refine yG5 rfl rfl rfl ?_ ?_|fail));(first|refine yI3 rfl rfl ?_|refine yJN rfl rfl rfl rfl ?_);exact h.go))
 |(refine yBS ?_;first|(refine xCL rfl ?_;exact h.go)|(refine yQy rfl rfl ?_ ?_;first|(exact (fun _=>zF);exact h.go)|(rotate_left;exact (fun _=>zF);exact h.go))|(refine yQz rfl rfl ?_ ?_;first|(exact (fun _=>zF);exact h.go)|(rotate_left;exact (fun _=>zF);exact h.go))|((fail_if_success (first|refine yQy rfl rfl ?_ ?_|refine yQz rfl rfl ?_ ?_|fail));(first|refine xCE rfl rfl rfl rfl ?_|refine xBl rfl rfl rfl ?_);exact h.go))
 |(refine xCJ ?_;(first|refine xCH rfl rfl rfl rfl ?_|refine xBn rfl rfl ?_|refine xCM ?_);exact h.go)):G:=h ⟨g⟩
theorem xse {A B G:Prop} (a:A) (b:B) (h:Later A→Later B→G:=by
 intro h1 h2;first
 |(refine yPg ?_;(first|(refine yAw ?_;refine yAv rfl ?_)|(refine yAW ?_;refine yAU rfl xF rfl ?_));exact (fun (_:(1:Nat)=2→(0:Nat)=1)=>h1.go) h2.go)
 |(refine yPh ?_;refine yJM rfl ?_ ?_ <;> first|exact h1.go|exact h2.go)
 |(refine yPf ?_;first|(refine yG4 rfl rfl rfl ?_ ?_ <;> first|exact h1.go|exact h2.go)|(refine yG5 rfl rfl rfl ?_ ?_ <;> first|exact h1.go|exact h2.go))
 |(refine yBS ?_;first|(refine yQy rfl rfl ?_ ?_ <;> first|exact h1.go|exact h2.go)|(refine yQz rfl rfl ?_ ?_ <;> first|exact h1.go|exact h2.go))):G:=h ⟨a⟩ ⟨b⟩
theorem xsc {A G:Prop} (g:A) (h:Later A→G:=by
 intro h;first
 |(refine yPg ?_;(first|(refine yDm ?_;refine yQv rfl rfl xS xF (by rfl) xO xL xR ?_)|refine xCK rfl ?_|refine xBk ?_);exact h.go)
 |(refine yPh ?_;(first|refine yTr rfl ?_|refine yTs rfl ?_);exact h.go)
 |(refine yPf ?_;(first|refine yI3 rfl rfl ?_|refine yJN rfl rfl rfl rfl ?_);exact h.go)
 |(refine yBS ?_;(first|refine xCE rfl rfl rfl rfl ?_|refine xBl rfl rfl rfl ?_|refine xCL rfl ?_);exact h.go)
 |(refine xCJ ?_;(first|refine xCH rfl rfl rfl rfl ?_|refine xBn rfl rfl ?_|refine xCM ?_);exact h.go)):G:=h ⟨g⟩
theorem xsf {A B G:Prop} (a:A) (b:B) (h:Later A→Later B→G:=by
 intro h1 h2;first
 |(refine yPh ?_;refine yJM rfl ?_ ?_ <;> first|exact h1.go|exact h2.go)
 |(refine yPf ?_;first|(refine yG4 rfl rfl rfl ?_ ?_ <;> first|exact h1.go|exact h2.go)|(refine yG5 rfl rfl rfl ?_ ?_ <;> first|exact h1.go|exact h2.go))
 |(refine yBS ?_;first|(refine yQy rfl rfl ?_ ?_ <;> first|exact h1.go|exact h2.go)|(refine yQz rfl rfl ?_ ?_ <;> first|exact h1.go|exact h2.go))
 |exact xBi h1.go h2.go
 |exact xBh rfl rfl rfl rfl rfl h1.go h2.go
 |exact yZs h1.go h2.go):G:=h ⟨a⟩ ⟨b⟩
theorem xsd {A B G:Prop} (a:A) (b:B) (h:Later A→Later B→G:=by
 intro h1 h2;first
 |exact xBi h1.go h2.go
 |exact xBh rfl rfl rfl rfl rfl h1.go h2.go
 |exact yZs h1.go h2.go):G:=h ⟨a⟩ ⟨b⟩
def gB:Nat:=38
def LastAt (w:World) (b:Nat) (u:List (Nat × zB)):Prop:=
 ∃ M:DataW Unit,w.ownsMap prog 3 (plainElem prog 3) b u.length M∧
  ∀ i:Nat,Maps.has M (.int .i64 i)=(yDk u i).isSome∧M.atKey (.int .i64 i) (.lit (.int .i64 0))=.lit (.int .i64 ((yDk u i).getD 0:Nat))
def yAS (x:Nat × zB):List Value:=.int .i64 x.1::bvs x.2
def yDn (u:List (Nat × zB)):List Value:=u.flatMap yAS
theorem yF6 (u:List (Nat × zB)) (n:Nat) (hu:∀ x ∈ u,x.1<n∧x.2.length=256):∀ x ∈ u,(yAS x).length=257:=by intro x hx;simp [yAS,(hu x hx).2]
theorem yMy {w:World} {v:Value} {T:TypeId} {u:List (Nat × zB)} {n:Nat} (h:w.ownsRow 0 T 257 v u.length (yDn u)) (hu:∀ x ∈ u,x.1<n∧x.2.length=256) (k i:Nat) (b:zB) (hk:u[k]? = some (i,b)) :∃ g cap,v=.slice (zq g) u.length cap∧u.length≤cap∧cap≤maxLen∧g<w.heap.size∧w.rangeAt g (k*257) (yAS (i,b)):=by
 have hlt:=(zLc.1 hk).1;rcases h.2 with h1|⟨g,cap,aw,hv,_,hh,h3,h4,h5,h6⟩
 ·omega
 ·refine ⟨g,cap,hv,h3,h4,(zLh.1 hh).1,fun j z hz=>?_⟩;have hj:j<257:=by have:=(zLc.1 hz).1;rw [yF6 u n hu _ (zLk hk)] at this;exact this
  have e:=yQu yAS 257 u (yF6 u n hu) k (i,b) hk j hj;rw [hz] at e;have e2:(aw.toList.take (u.length*257))[k*257+j]? = some z:=by rw [h6];exact e
  rw [List.getElem?_take,if_pos zO] at e2;rw [cell_of_row w g _ _ T _ hh];simpa using e2
def DiskAt (w:World) (F:Nat→Prop) (p:Nat) (D:Dsk):Prop:=
 ∃ (pd pm:Nat) (uv:Value),
  Blk w p [.slice (zq pd) D.n D.n,uv,.map (some pm),.bool D.off,.int .i64 D.armed,.int .i64 D.writes,.int .i64 D.flushes,.int .i64 D.life] 93∧
  Blk w pd (bvs D.img) 95∧
  w.ownsRow 0 126 257 uv D.und.length (yDn D.und)∧LastAt w pm D.und∧
  (F p∧F pd∧F pm∧∀ g,uv.ownBlock=some g→F g)∧(∀ k,F k→gB≤k∧k<w.heap.size)∧D.ok
theorem yCO {w w':World} {base:Nat} {e:TypeId} {size:Nat} {v:Value} {n:Nat} {xs:List Value} (h:w.ownsRow base e size v n xs) (hb:∀ g,v.ownBlock=some g→w'.heap[g]? = w.heap[g]?):w'.ownsRow base e size v n xs:=by
 obtain ⟨h1,h2⟩:=h;refine ⟨h1,?_⟩;rcases h2 with h2|⟨g,cap,aw,hv,hg,hh,r⟩
 ·exact Or.inl h2
 ·exact Or.inr ⟨g,cap,aw,hv,hg,by rw [hb g (by rw [hv];rfl)];exact hh,r⟩
theorem LastAt.keep {w w':World} {b:Nat} {u:List (Nat × zB)} (h:LastAt w b u) (e:w'.heap[b]? = w.heap[b]?):LastAt w' b u:=by obtain ⟨M,⟨es,clock,hb,r⟩,h2⟩:=h;exact ⟨M,⟨es,clock,e.trans hb,r⟩,h2⟩
theorem LastAt.lt {w:World} {b:Nat} {u:List (Nat × zB)} (h:LastAt w b u):b<w.heap.size:=by obtain ⟨M,h,_⟩:=h;exact h.lt
theorem DiskAt.keep {w w':World} {F:Nat→Prop} {p:Nat} {D:Dsk} (hd:DiskAt w F p D) (hs:w.heap.size≤w'.heap.size) (h:∀ k,F k→w'.heap[k]? = w.heap[k]?):DiskAt w' F p D:=by obtain ⟨pd,pm,uv,hp,hpd,hu,hm,hF,hb,am⟩:=hd;exact ⟨pd,pm,uv,hp.keep (h _ hF.1),hpd.keep (h _ hF.2.1),yCO hu (fun g hg=>h _ (hF.2.2.2 g hg)),hm.keep (h _ hF.2.2.1),hF,fun k hk=>⟨(hb k hk).1,Nat.lt_of_lt_of_le (hb k hk).2 hs⟩,am⟩
theorem DiskAt.fr {w w':World} {F G:Nat→Prop} {p:Nat} {D:Dsk} (hd:DiskAt w F p D) (h:Fr G w w') (hG:∀ k,F k→¬ G k):DiskAt w' F p D:=
 hd.keep h.size fun k hk=>h.block k (by obtain ⟨_,_,_,_,_,_,_,_,hb,_⟩:=hd;exact (hb k hk).2) (hG k hk)
theorem DiskAt.bound {w:World} {F:Nat→Prop} {p:Nat} {D:Dsk} (hd:DiskAt w F p D):∀ k,F k→gB≤k∧k<w.heap.size:=by obtain ⟨_,_,_,_,_,_,_,_,hb,_⟩:=hd;exact hb
theorem DiskAt.good {w:World} {F:Nat→Prop} {p:Nat} {D:Dsk} (hd:DiskAt w F p D):D.ok:=by obtain ⟨_,_,_,_,_,_,_,_,_,h⟩:=hd;exact h
theorem DiskAt.has {w:World} {F:Nat→Prop} {p:Nat} {D:Dsk} (hd:DiskAt w F p D):F p:=by obtain ⟨_,_,_,_,_,_,_,hF,_,_⟩:=hd;exact hF.1
theorem DiskAt.cell {w:World} {F:Nat→Prop} {p:Nat} {D:Dsk} (hd:DiskAt w F p D) :w.cell? ⟨p,3,none⟩=some (.bool D.off)∧w.cell? ⟨p,4,none⟩=some (.int .i64 D.armed)∧w.cell? ⟨p,5,none⟩=some (.int .i64 D.writes)∧w.cell? ⟨p,6,none⟩=some (.int .i64 D.flushes)∧w.cell? ⟨p,7,none⟩=some (.int .i64 D.life)∧ (∀ j,w.frozen? ⟨p,j,none⟩=false):=by
 obtain ⟨pd,pm,uv,hp,_⟩:=hd;exact ⟨by rw [hp.cell];rfl,by rw [hp.cell];rfl,by rw [hp.cell];rfl,by rw [hp.cell];rfl,by rw [hp.cell];rfl,hp.free⟩
theorem DiskAt.store {w:World} {F:Nat→Prop} {p:Nat} {D:Dsk} (hd:DiskAt w F p D) (j:Nat) (v:Value) (D':Dsk) (hn:D'.n=D.n) (hi:D'.img=D.img) (hu:D'.und=D.und) (hs:∀ a u m:Value,[a,u,m,.bool D.off,.int .i64 D.armed,.int .i64 D.writes,.int .i64 D.flushes,.int .i64 D.life].set j v=[a,u,m,.bool D'.off,.int .i64 D'.armed,.int .i64 D'.writes,.int .i64 D'.flushes,.int .i64 D'.life]) (hok':D'.ok) :DiskAt (w.setCell ⟨p,j,none⟩ v) F p D':=by
 obtain ⟨pd,pm,uv,hp,hpd,iN,hm,hF,hb,am⟩:=hd;have jh:=hp.set j v;rw [hs] at jh;have n1:pd≠p:=hpd.ne hp zX;have n2:pm≠p:=by obtain ⟨_,⟨_,_,h,_⟩,_⟩:=hm;exact hp.ne_map h
 have n3:∀ g,uv.ownBlock=some g→g≠p:=fun g hg=>hp.ne_row iN hg zX;have keep:∀ k,k≠p→(w.setCell ⟨p,j,none⟩ v).heap[k]? = w.heap[k]?:=fun k hk=>heap_setCell_other _ _ _ _ hk;refine ⟨pd,pm,uv,by rw [hn];exact jh,by rw [hi];exact hpd.keep (keep _ n1),by rw [hu];exact yCO iN (fun g hg=>keep _ (n3 g hg)),by rw [hu];exact hm.keep (keep _ n2),hF,fun k hk=>⟨(hb k hk).1,by simpa [World.setCell] using (hb k hk).2⟩,hok'⟩
theorem yMz (w:World) (F:Nat→Prop) (p:Nat) (D:Dsk) (hd:DiskAt w F p D) :Calls prog 170 #[zPp p] w fun e w'=>e=.returned (.bool D.dead)∧DiskAt w' F p D.gone∧Fr F w w':=by
 have fJ:=hd.has;obtain ⟨c3,c4,c5,c6,c7,fr⟩:=hd.cell;have am:=hd.good;have f3:=fr 3;have f4:=fr 4;have a1:=am.arm1;have a2:=am.arm2;have H:Hid (DiskAt w F p D∧F p∧D.ok):=⟨hd,fJ,am⟩;clear hd fJ am fr c5 c6 c7
 go_enter func170,ntmps170
 go_wp2
 ·have h0:D.armed=0:=by
   have:(D.armed == 0)=true:=by assumption
   simpa using this
  go_ret
  obtain ⟨hd,fJ,am⟩:=H;refine ⟨by simp [Dsk.dead,h0],hd.store 3 _ D.gone D.gone_n D.gone_img D.gone_und ?_ (Dsk.gone_ok am),(Fr.refl _ _).setCell (.inl fJ) _⟩;intro a u m;simp [Dsk.gone,h0]
 ·have h0:¬ D.armed=0:=by
   have:(D.armed == 0)=false:=by assumption
   simpa using this
  have h1:0<D.armed:=by assumption
  go_ret
  obtain ⟨hd,fJ,am⟩:=H;refine ⟨by simp [Dsk.dead,h0],hd.store 4 _ D.gone D.gone_n D.gone_img D.gone_und ?_ (Dsk.gone_ok am),(Fr.refl _ _).setCell (.inl fJ) _⟩;intro a u m;simp [Dsk.gone,h0,h1]
 ·have h0:¬ D.armed=0:=by
   have:(D.armed == 0)=false:=by assumption
   simpa using this
  have h1:¬ 0<D.armed:=by
   have:D.armed≤0:=by assumption
   omega
  go_ret
  obtain ⟨hd,fJ,am⟩:=H;exact ⟨by simp [Dsk.dead,h0],by
   have:D.gone=D:=by simp [Dsk.gone,h0,h1]
   rw [this];exact hd,Fr.refl _ _⟩
def yYy:Nat→Nat
 |1=>9|2=>10|3=>11|4=>12|5=>13|6=>0|7=>14
 |8=>15|9=>16|10=>17|11=>18|12=>2|13=>1|14=>8
 |15=>6|16=>7|17=>4|18=>5|19=>19|20=>20|21=>3
 |22=>21|23=>22|24=>23|25=>24|26=>25|27=>26|28=>27
 |29=>28|30=>29|31=>30|32=>31|33=>32|34=>33|35=>34
 |36=>35|37=>36|_=>1000000
def yAy (E:Nat→Addr) (k:Nat):Value:=if k=0 then .nilIface else .iface 303 (.pointer (some (E k)))
theorem yTR (E:Nat→Addr):yAy E 0=.nilIface:=rfl
def ErrAt (w:World) (E:Nat→Addr) (k:Nat):Prop:=w.cell? ⟨yYy k,0,none⟩=some (yAy E k)
theorem ErrAt.keep {w w':World} {E:Nat→Addr} {k:Nat} (h:ErrAt w E k) {F:Nat→Prop} (hf:Fr F w w') (hF:∀ i,F i→gB≤i) (hk:yYy k<gB):ErrAt w' E k:=by unfold ErrAt at h ⊢;have hb:=block_lt_of_cell h;rw [hf.cell hb (fun q=>by have h1:gB≤yYy k:=hF _ q;omega)];exact h
theorem yWL (w:World):(zeroValue 3).run prog w=.ok (.int .i64 0) w:=zK
theorem yYz (i:Nat) (hi:i≤65536):keyOf prog 3 (.int .i64 i)=some (.int .i64 i):=
 Maps.keyOf_int_mk underlying3 (WalkArith.wf_i64 zO)
theorem yEC {ops:Array Oper} {rest:List Oper} {o:Oper} {a:Act} {w:World} {Q:Exit→Act→World→Prop} (hg:o.guard=none) (m x:Operand) (dE:o.op=Op.lookup 91 m x true) (b:Nat) (u:List (Nat × zB)) (i:Nat) (hm:a.eval m=.map (some b)) (hx:a.eval x=.int .i64 i) (hL:LastAt w b u) (hi:i≤65536) (hK:wpList prog ops Q rest (a.put o.dst (.tuple #[.int .i64 ((yDk u i).getD 0:Nat),.bool (yDk u i).isSome])) w):wpList prog ops Q (o::rest) a w:=by
 obtain ⟨M,hM,hs⟩:=hL;refine wpList_lookup_own_ok_int w hg m x 91 dE 3 3 .i64 (Maps.int_keyed underlying3) underlying91 underlying3 (yWL _) b _ M hm hM _ _ hx (yYz i hi) ?_;intro c hc _;rw [(hs i).2] at hc;injection hc with hc;injection hc with _ hc;subst hc;rw [(hs i).1];exact hK
theorem yHH {ops:Array Oper} {rest:List Oper} {o:Oper} {a:Act} {w:World} {Q:Exit→Act→World→Prop} (hg:o.guard=none) (m x:Operand) (dE:o.op=Op.lookup 91 m x true) (b:Nat) (u:List (Nat × zB)) (i:Nat) (hm:a.eval m=.map (some b)) (hx:a.eval x=.int .i64 i) (hL:LastAt w b u) (hi:i≤65536) (hl:yDk u i=none) (hK:wpList prog ops Q rest (a.put o.dst (.tuple #[.int .i64 0,.bool false])) w):wpList prog ops Q (o::rest) a w:=
 yEC hg m x dE b u i hm hx hL hi (by rw [hl];exact hK)
theorem yHI {ops:Array Oper} {rest:List Oper} {o:Oper} {a:Act} {w:World} {Q:Exit→Act→World→Prop} (hg:o.guard=none) (m x:Operand) (dE:o.op=Op.lookup 91 m x true) (b:Nat) (u:List (Nat × zB)) (i:Nat) (hm:a.eval m=.map (some b)) (hx:a.eval x=.int .i64 i) (hL:LastAt w b u) (hi:i≤65536) (k:Nat) (hl:yDk u i=some k) (hK:wpList prog ops Q rest (a.put o.dst (.tuple #[.int .i64 k,.bool true])) w):wpList prog ops Q (o::rest) a w:=
 yEC hg m x dE b u i hm hx hL hi (by rw [hl];exact hK)
theorem yHJ {ops:Array Oper} {rest:List Oper} {o:Oper} {a:Act} {w:World} {Q:Exit→Act→World→Prop} (hg:o.guard=none) (m x v:Operand) (dE:o.op=Op.mapUpdate 91 m x v) (b:Nat) (u:List (Nat × zB)) (i:Nat) (s:zB) (hm:a.eval m=.map (some b)) (hx:a.eval x=.int .i64 i) (hv:a.eval v=.int .i64 u.length) (hL:LastAt w b u) (hi:i≤65536) (aS:u.length<1073741824) (hK:∀ w',Hid (LastAt w' b (u++[(i,s)])∧w.grownBy w' (some b))→wpList prog ops Q rest (a.put o.dst undef) w'):wpList prog ops Q (o::rest) a w:=by
 obtain ⟨M,hM,hs⟩:=hL
 refine wpList_mapUpdate_own w hg m x v 91 dE 3 3 (Maps.int_keyed underlying3) underlying91 (plainElem prog 3) b _ M hm hM (by unfold maxLen;omega) _ _ _ hx hv (yYz i hi) _ []
  (plainElem_int underlying3 (WalkArith.wf_i64 zO)) ?_
 intro w' hM' iD;refine hK w' ⟨⟨_,by rw [zLa];exact hM',fun j=>?_⟩,iD⟩;rw [yHh];by_cases ec:i=j
 ·subst ec;rw [Maps.has_put_same (k:=.int .i64 (i:Int)) hM.isMap trivial,Maps.atKey_put_same (k:=.int .i64 (i:Int)) hM.isMap trivial];simp
 ·have ao:(Lit.int IntKind.i64 (j:Int))≠.int .i64 i:=by intro e;injection e with _ e;omega
  rw [Maps.has_put_other ao,Maps.atKey_put_other ao,if_neg ec];exact hs j
theorem yIC (w:World) (F:Nat→Prop) (p:Nat) (D:Dsk) (hd:DiskAt w F p D) (i:Int) :Calls prog 156 #[zPp p,.int .i64 i] w fun e w'=>e=.returned (.bool (D.has i))∧w=w':=by
 have am:=hd.good;obtain ⟨pd,pm,uv,hp,-⟩:=hd;have c0:w.cell? ⟨p,0,none⟩=some (.slice (zq pd) D.n D.n):=by rw [hp.cell];rfl
 have b2:=am.n2;clear hp am;by_cases h0:0≤i
 ·have h0':decide ((0:Int)≤i)=true:=by simpa using h0
  by_cases h1:i<D.n
  ·go_enter func156,ntmps156
   go_wp2
   all_goals go_ret
   all_goals exact ⟨by simp [Dsk.has,h0,h1],rfl⟩
  ·go_enter func156,ntmps156
   go_wp2
   all_goals go_ret
   all_goals exact ⟨by simp [Dsk.has,h0,h1],rfl⟩
 ·go_enter func156,ntmps156
  go_wp2
  all_goals go_ret
  all_goals exact ⟨by have h0':¬ 0≤i:=zO;simp [Dsk.has,h0'],rfl⟩
theorem yWM (w:World) (F:Nat→Prop) (p:Nat) (D:Dsk) (hd:DiskAt w F p D) :Calls prog 45 #[zPp p] w fun e w'=>e=.returned (.int .i64 D.n)∧w=w':=by
 have am:=hd.good;obtain ⟨pd,pm,uv,hp,-⟩:=hd;have c0:w.cell? ⟨p,0,none⟩=some (.slice (zq pd) D.n D.n):=by rw [hp.cell];rfl
 have b2:=am.n2;clear hp am
 go_enter func45,ntmps45
 go_wp2
 go_ret
 exact ⟨rfl,rfl⟩
theorem yPj (w:World) (F:Nat→Prop) (p:Nat) (D:Dsk) (hd:DiskAt w F p D) :Calls prog 12 #[zPp p] w fun e w'=>e=.returned (.int .i64 D.und.length)∧w=w':=by
 obtain ⟨pd,pm,uv,hp,-,hu,-⟩:=hd;have c0:w.cell? ⟨p,1,none⟩=some uv:=by rw [hp.cell];rfl
 have huv:∃ a c,uv=.slice a D.und.length c:=by
  rcases hu.2 with h|⟨g,cap,aw,hv,_⟩
  ·exact ⟨none,0,by rw [h.1,h.2]⟩
  ·exact ⟨_,_,hv⟩
 obtain ⟨a,c,rfl⟩:=huv;clear hp hu
 go_enter func12,ntmps12
 go_wp2
 go_ret
 exact ⟨rfl,rfl⟩
theorem yZx (w:World) (F:Nat→Prop) (p:Nat) (D:Dsk) (hd:DiskAt w F p D) :Calls prog 46 #[zPp p] w fun e w'=>e=.returned (.bool D.off)∧w=w':=by
 obtain ⟨c3,-⟩:=hd.cell;clear hd
 go_enter func46,ntmps46
 go_wp2
 go_ret
 exact ⟨rfl,rfl⟩
theorem yWN (w:World) (F:Nat→Prop) (p:Nat) (D:Dsk) (hd:DiskAt w F p D) :Calls prog 88 #[zPp p] w fun e w'=>e=.returned (.int .i64 D.life)∧w=w':=by
 obtain ⟨-,-,-,-,c7,-⟩:=hd.cell;clear hd
 go_enter func88,ntmps88
 go_wp2
 go_ret
 exact ⟨rfl,rfl⟩
theorem yRR (w:World) (F:Nat→Prop) (p:Nat) (D:Dsk) (hd:DiskAt w F p D) :Calls prog 9 #[zPp p] w fun e w'=>e=.returned (.tuple #[.int .i64 D.writes,.int .i64 D.flushes])∧∃ n,w'=w.drewN n:=by
 obtain ⟨-,-,c5,c6,-,-⟩:=hd.cell;clear hd
 go_enter func9,ntmps9
 go_wp2
 go_quiet (fail)
 all_goals go_wp2
 all_goals go_ret2
 all_goals exact ⟨rfl,_,rfl⟩
theorem yZy (w:World) (F:Nat→Prop) (p:Nat) (D:Dsk) (hd:DiskAt w F p D) (k:Int) (hk:k≤9223372036854775807) :Calls prog 27 #[zPp p,.int .i64 k] w fun e w'=>e=.returned (.tuple #[])∧DiskAt w' F p (D.arm k)∧Fr F w w':=by
 obtain ⟨-,c4,-,-,-,fr⟩:=hd.cell;have f4:=fr 4;have fJ:=hd.has;have am:=hd.good;have H:Hid (DiskAt w F p D∧F p∧D.ok):=⟨hd,fJ,am⟩;clear hd fr fJ am;by_cases ez:-1<k
 ·go_enter func27,ntmps27
  go_wp2
  all_goals go_end0
  all_goals
   obtain ⟨hd,fJ,am⟩:=H;refine ⟨rfl,hd.store 4 _ (D.arm k) rfl rfl rfl ?_ (Dsk.arm_ok am k hk),(Fr.refl _ _).setCell (.inl fJ) _⟩;intro a u m;have:max k (-1)=k:=zO;simp [Dsk.arm,this]
 ·go_enter func27,ntmps27
  go_wp2
  all_goals go_end0
  all_goals
   obtain ⟨hd,fJ,am⟩:=H;refine ⟨rfl,hd.store 4 _ (D.arm k) rfl rfl rfl ?_ (Dsk.arm_ok am k hk),(Fr.refl _ _).setCell (.inl fJ) _⟩;intro a u m;have:max k (-1)=-1:=zO;simp [Dsk.arm,this];try omega
theorem zal {P:Program} {W:World} {n:Nat} {E:Env} {H:List SP} {d:Nat} {k:KK} {t:TypeId} {zs:List Value} [hz:ZcIs P t zs] (h:∀ g,KJ W n k ((d,.pointer (zq g))::E) (yAj g zs t::H)) (hn:Nat.blt d n=true:=by exact rfl):KJ W n (.oper P (.alloc t) (some d) k) E H:=yAv hn h
theorem zbx {P:Program} {W:World} {n:Nat} {E:Env} {H:List SP} {d:Nat} {k:KK} {t:TypeId} {y:Operand} {v:Value} {vs:List Value} (h:∀ g,KJ W n k ((d,.pointer (zq g))::E) (yAj g vs t::H)) (hy:Env.ev E y=some v:=by exact rfl) (hv:CellsOf v vs:=by exact xF) (hn:Nat.blt d n=true:=by exact rfl):KJ W n (.oper P (.box t y) (some d) k) E H:=yAU hy hv hn h
end Go.Proofs.YtoipmnikdiogcaaGreatDoor
