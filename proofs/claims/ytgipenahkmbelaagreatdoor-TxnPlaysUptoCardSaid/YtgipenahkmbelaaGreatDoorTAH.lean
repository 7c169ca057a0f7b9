/-
  Model, Laws, Cells, Acts.
-/
import Derived.WalkKit
import Derived.Test.YtgipenahkmbelaaGreatDoorTAD
import Derived.Deep.MidRow
import Derived.Deep.WholeRow
import Derived.Laws.IdiomStrings
import Derived.Laws.CopyOwn
import Derived.Lib.SlBuf
import Derived.StillTailTactics
import Derived.Maps.AppendAt
import Derived.Laws.AppendOwnNone
set_option maxHeartbeats 64000000
namespace Go.Proofs.YtgipenahkmbelaaGreatDoor
open Go Go.RowKit
structure Dsk where
 n:Nat
 img:List UInt8
 und:List (Nat × List UInt8)
 off:Bool
 armed:Int
 writes:Int
 flushes:Int
 life:Int
structure Dsk.ok (D:Dsk):Prop where
 n1:1≤D.n
 n2:D.n≤65536
 len:D.img.length=256*D.n
 und:∀ x ∈ D.und,x.1<D.n∧x.2.length=256
 arm1:-1≤D.armed
 arm2:D.armed≤9223372036854775807
def zs (n:Nat):List UInt8:=List.replicate n 0
theorem zs_length (n:Nat):(zs n).length=n:=List.length_replicate
def w64 (x:Int):Int:=Go.RowKit.wrap64 x
def lastIx (u:List (Nat × List UInt8)) (i:Nat):Option Nat:=((u.zipIdx.filter (fun x=>x.1.1 == i)).getLast?).map (·.2)
def lastW (u:List (Nat × List UInt8)) (i:Nat):Option (List UInt8):=((u.filter (fun x=>x.1 == i)).getLast?).map (·.2)
theorem lastIx_nil (i:Nat):lastIx [] i=none:=rfl
theorem lastW_nil (i:Nat):lastW [] i=none:=rfl
theorem lastIx_snoc (u:List (Nat × List UInt8)) (j:Nat) (b:List UInt8) (i:Nat):lastIx (u++[(j,b)]) i=if j=i then some u.length else lastIx u i:=by
 unfold lastIx
 rw [List.zipIdx_append,List.filter_append]
 by_cases h:j=i
 ·subst h;simp [List.getLast?_append]
 ·have:(j == i)=false:=by simpa using h
  simp [this,h]
theorem lastW_snoc (u:List (Nat × List UInt8)) (j:Nat) (b:List UInt8) (i:Nat):lastW (u++[(j,b)]) i=if j=i then some b else lastW u i:=by
 unfold lastW
 rw [List.filter_append]
 by_cases h:j=i
 ·subst h;simp [List.getLast?_append]
 ·have:(j == i)=false:=by simpa using h
  simp [this,h]
theorem last_snoc_induction {α:Type} {P:List α→Prop} (h0:P []) (h1:∀ l x,P l→P (l++[x])) (l:List α):P l:=by
 have:∀ n (l:List α),l.length=n→P l:=by
  intro n
  induction n with
  |zero=>intro l hl;rw [List.eq_nil_of_length_eq_zero hl];exact h0
  |succ n ih=>
   intro l hl
   have hne:l≠[]:=by intro h;subst h;simp at hl
   rw [← List.dropLast_concat_getLast hne]
   exact h1 _ _ (ih _ (by simp;omega))
 exact this _ l rfl
theorem lastIx_some (u:List (Nat × List UInt8)) (i k:Nat) (h:lastIx u i=some k):∃ b,u[k]? = some (i,b)∧lastW u i=some b:=by
 revert k
 refine last_snoc_induction (P:=fun u=>∀ k,lastIx u i=some k→∃ b,u[k]? = some (i,b)∧lastW u i=some b) ?_ ?_ u
 ·intro k h;simp [lastIx_nil] at h
 ·intro l x ih k h
  obtain ⟨j,b⟩:=x
  rw [lastIx_snoc] at h
  rw [lastW_snoc]
  by_cases hj:j=i
  ·subst hj;simp at h;subst h;exact ⟨b,by simp,by simp⟩
  ·rw [if_neg hj] at h
   obtain ⟨b',h1,h2⟩:=ih k h
   refine ⟨b',?_,by rw [if_neg hj];exact h2⟩
   have:=(List.getElem?_eq_some_iff.1 h1).1
   rw [List.getElem?_append_left this];exact h1
theorem lastIx_none (u:List (Nat × List UInt8)) (i:Nat) (h:lastIx u i=none):lastW u i=none:=by
 revert h
 refine last_snoc_induction (P:=fun u=>lastIx u i=none→lastW u i=none) (fun _=>rfl) ?_ u
 intro l x ih h
 obtain ⟨j,b⟩:=x
 rw [lastIx_snoc] at h
 rw [lastW_snoc]
 by_cases hj:j=i
 ·subst hj;simp at h
 ·rw [if_neg hj] at h ⊢;exact ih h
def cut (l:List UInt8) (o n:Nat):List UInt8:=(l.drop o).take n
def lay {α:Type} (l:List α) (o:Nat) (b:List α):List α:=l.take o++(b++l.drop (o+b.length))
theorem lay_length {α:Type} (l:List α) (o:Nat) (b:List α) (h:o+b.length≤l.length):(lay l o b).length=l.length:=by
 simp [lay];omega
theorem cut_length (l:List UInt8) (o n:Nat) (h:o+n≤l.length):(cut l o n).length=n:=by simp [cut];omega
theorem flat_get {α β:Type} (f:α→List β) (c:Nat) (l:List α) (hf:∀ x ∈ l,(f x).length=c) (k:Nat) (x:α) (hk:l[k]? = some x) (j:Nat) (hj:j<c):(l.flatMap f)[k*c+j]? = (f x)[j]?:=by
 induction l generalizing k with
 |nil=>simp at hk
 |cons y l ih=>
  have hy:=hf y (by simp)
  cases k with
  |zero=>
   simp at hk;subst hk
   rw [List.flatMap_cons,List.getElem?_append_left (by omega)]
   simp
  |succ k=>
   rw [List.flatMap_cons,List.getElem?_append_right (by rw [hy,Nat.succ_mul];omega)]
   rw [show (k+1)*c+j-(f y).length=k*c+j by rw [hy,Nat.succ_mul];omega]
   exact ih (fun z hz=>hf z (by simp [hz])) k (by simpa using hk)
def Dsk.sec (D:Dsk) (i:Nat):List UInt8:=cut D.img (i*256) 256
def Dsk.rd (D:Dsk) (i:Nat):List UInt8:=(lastW D.und i).getD (D.sec i)
def Dsk.has (D:Dsk) (i:Int):Bool:=decide (0≤i∧i<D.n)
def Dsk.readS (D:Dsk) (i:Int):List UInt8:=if D.off then [] else if D.has i then D.rd i.toNat else []
def Dsk.readE (D:Dsk) (i:Int):Nat:=if D.off then 12 else if D.has i then 0 else 6
def Dsk.dead (D:Dsk):Bool:=decide (D.armed=0)
def Dsk.gone (D:Dsk):Dsk:=if D.armed=0 then { D with off:=true } else if 0<D.armed then { D with armed:=D.armed-1 } else D
def Dsk.writeE (D:Dsk) (i:Int) (s:List UInt8):Nat:=if D.off then 12 else if D.has i then (if s.length=256 then (if D.dead then 12 else 0) else 7) else 6
def Dsk.writeD (D:Dsk) (i:Int) (s:List UInt8):Dsk:=
 if D.off then D else if D.has i then (if s.length=256 then
  (let D1:=({ D with und:=D.und++[(i.toNat,s)] }:Dsk).gone
   if D.dead then D1 else { D1 with writes:=w64 (D1.writes+1) }) else D) else D
def layAll (img:List UInt8) (u:List (Nat × List UInt8)):List UInt8:=u.foldl (fun m x=>lay m (x.1*256) x.2) img
def Dsk.flushE (D:Dsk):Nat:=if D.off || D.dead then 12 else 0
def Dsk.flushD (D:Dsk):Dsk:=
 if D.off then D else if D.dead then D.gone else
  { D.gone with img:=layAll D.img D.und,und:=[],flushes:=w64 (D.flushes+1) }
def Dsk.clr (D:Dsk):Dsk:={ D with und:=[] }
def done (kept:List Bool) (torn bytes:Int) (k:Nat):Nat:=
 if (k:Int)=torn then (min (max bytes 0) 256).toNat else if kept.getD k false then 256 else 0
def layDone (img:List UInt8) (kept:List Bool) (torn bytes:Int) (u:List (Nat × List UInt8)):List UInt8:=
 u.zipIdx.foldl (fun m x=>lay m (x.1.1*256) (x.1.2.take (done kept torn bytes x.2))) img
def Dsk.crash (D:Dsk) (kept:List Bool) (torn bytes:Int):Dsk:=
 { D with img:=layDone D.img kept torn bytes D.und,und:=[],armed:=-1,off:=false,life:=w64 (D.life+1) }
def Dsk.blank (n:Nat):Dsk:={ n:=n,img:=zs (256*n),und:=[],off:=false,armed:=-1,writes:=0,flushes:=0,life:=0 }
def Dsk.of (img:List UInt8):Dsk:={ n:=img.length / 256,img:=img,und:=[],off:=false,armed:=-1,writes:=0,flushes:=0,life:=0 }
theorem Dsk.gone_und (D:Dsk):D.gone.und=D.und:=by unfold Dsk.gone;split;rfl;split <;> rfl
theorem Dsk.gone_img (D:Dsk):D.gone.img=D.img:=by unfold Dsk.gone;split;rfl;split <;> rfl
theorem Dsk.gone_n (D:Dsk):D.gone.n=D.n:=by unfold Dsk.gone;split;rfl;split <;> rfl
theorem Dsk.gone_flushes (D:Dsk):D.gone.flushes=D.flushes:=by unfold Dsk.gone;split;rfl;split <;> rfl
theorem Dsk.gone_ok {D:Dsk} (h:D.ok):D.gone.ok:=by
 unfold Dsk.gone
 have a1:=h.arm1
 have a2:=h.arm2
 split
 ·exact ⟨h.n1,h.n2,h.len,h.und,a1,a2⟩
 ·split
  ·exact ⟨h.n1,h.n2,h.len,h.und,by show -1≤D.armed-1;omega,by show D.armed-1≤_;omega⟩
  ·exact h
theorem layAll_snoc (img:List UInt8) (u:List (Nat × List UInt8)) (x:Nat × List UInt8):layAll img (u++[x])=lay (layAll img u) (x.1*256) x.2:=by simp [layAll]
theorem layAll_take (img:List UInt8) (u:List (Nat × List UInt8)) (k j:Nat) (b:List UInt8) (hk:u[k]? = some (j,b)):layAll img (u.take (k+1))=lay (layAll img (u.take k)) (j*256) b:=by
 have h:=(List.getElem?_eq_some_iff.1 hk).1
 rw [List.take_succ_eq_append_getElem h,layAll_snoc]
 have:u[k]=(j,b):=(List.getElem?_eq_some_iff.1 hk).2
 rw [this]
theorem layAll_length (u:List (Nat × List UInt8)):∀ (img:List UInt8) (n:Nat),img.length=256*n→(∀ x ∈ u,x.1<n∧x.2.length=256)→(layAll img u).length=256*n:=by
 induction u with
 |nil=>intro img n h _;exact h
 |cons x u ih=>
  intro img n h hu
  have hx:=hu x (by simp)
  refine ih _ n ?_ (fun y hy=>hu y (by simp [hy]))
  rw [lay_length _ _ _ (by rw [hx.2];omega)];exact h
theorem lay_nil {α:Type} (l:List α) (o:Nat):lay l o []=l:=by simp [lay]
theorem Dsk.writeD_ok {D:Dsk} (h:D.ok) (i:Int) (s:List UInt8):(D.writeD i s).ok:=by
 unfold Dsk.writeD
 split
 ·exact h
 ·split
  ·rename_i hi
   split
   ·rename_i hs
    have hi':0≤i∧i<D.n:=by simpa [Dsk.has] using hi
    have h1:({ D with und:=D.und++[(i.toNat,s)] }:Dsk).ok:=⟨h.n1,h.n2,h.len,by
     intro x hx
     rcases List.mem_append.1 hx with hx|hx
     ·exact h.und x hx
     ·simp at hx;subst hx;exact ⟨by show i.toNat<D.n;omega,hs⟩,h.arm1,h.arm2⟩
    have h2:=Dsk.gone_ok h1
    dsimp only
    split
    ·exact h2
    ·exact ⟨h2.n1,h2.n2,h2.len,h2.und,h2.arm1,h2.arm2⟩
   ·exact h
  ·exact h
theorem Dsk.flushD_ok {D:Dsk} (h:D.ok):D.flushD.ok:=by
 unfold Dsk.flushD
 split
 ·exact h
 ·split
  ·exact Dsk.gone_ok h
  ·have h2:=Dsk.gone_ok h
   exact ⟨h2.n1,h2.n2,by show (layAll D.img D.und).length=256*D.gone.n;rw [Dsk.gone_n];exact layAll_length _ _ _ h.len h.und,by simp,h2.arm1,h2.arm2⟩
theorem Dsk.blank_ok (n:Nat) (h1:1≤n) (h2:n≤65536):(Dsk.blank n).ok:=⟨h1,h2,zs_length _,by simp [Dsk.blank],by simp [Dsk.blank],by simp [Dsk.blank]⟩
theorem Dsk.clr_ok {D:Dsk} (h:D.ok):D.clr.ok:=⟨h.n1,h.n2,h.len,fun x hx=>(by cases hx),h.arm1,h.arm2⟩
end Go.Proofs.YtgipenahkmbelaaGreatDoor
namespace Go.Proofs.YtgipenahkmbelaaGreatDoor
open Go Go.RowKit
variable {P:Program}
theorem wpList_store_top {ops:Array Oper} {rest:List Oper} {op:Oper} {a:Act} {w:World} {Q:Exit→Act→World→Prop} (hgd:op.guard=none) (ty:TypeId) (x y:Operand) (ho:op.op=.store ty x y)
 (z cells:Array Value) (T:TypeId) (hx:a.eval x=.pointer (some ⟨w.heap.size,0,none⟩)) (hy:a.eval y=.agg cells) (hz:z.size=cells.size)
 (hi:(P.info? ty).map (·.size)=some cells.size) (h1:cells.all (·.oneCell')=true)
 (h:wpList P ops Q rest (a.put op.dst undef) (w.alloc (.cells cells T))):wpList P ops Q (op::rest) a (w.alloc (.cells z T)):=by
 refine wpList_store_row hgd ty x y ho w.heap.size cells hx hy T z (heap_alloc_new w _) hi hz h1 ?_
 rw [World.setRow_alloc_new]
 exact h
theorem all_bvs (l:List UInt8):(bvs l).toArray.all (·.oneCell')=true:=by
 rw [Array.all_eq_true_iff_forall_mem]
 intro v hv
 exact bvs_one l v (by simpa using hv)
theorem wpList_bytes_string {ops:Array Oper} {rest:List Oper} {op:Oper} {a:Act} {w:World} {Q:Exit→Act→World→Prop} (hgd:op.guard=none) (src dst e:TypeId) (x:Operand) (ho:op.op=.convert src dst x)
 (hs:P.underlying src=some (.slice e)) (he:P.underlying e=some (.int .u8)) (hd:P.underlying dst=some .string)
 (b o n cap:Nat) (l:List UInt8) (hx:a.eval x=.slice (some ⟨b,o,none⟩) n cap) (hn:n=l.length) (hc:w.rangeAt b o (bvs l))
 (h:wpList P ops Q rest (a.put op.dst (.string ⟨l.toArray⟩)) w):wpList P ops Q (op::rest) a w:=by
 subst hn
 refine wpList_plain hgd fun K hK=>?_
 have hr:=run_convert_bytes_back (P:=P) w src dst e ⟨b,o,none⟩ cap l hs he hd (fun j hj=>by
  rw [Addr.add_mid]
  exact hc j _ (by simp [bvs,bv,List.getElem?_eq_getElem hj]))
 unfold Oper.wp execOp
 simp only [ho,hx,Sem.run_bind,Sem.run_pure,Result.andThen_ok,hr]
 exact hK _ _ h
theorem run_clear_map {P:Program} (w:World) (t k e ty:TypeId) (ht:P.underlying t=some (.map k e)) (b:Nat) (es:Array MapEntry) (clock:Nat) (h:w.heap[b]? = some (.map es clock)) :
 (Builtin.clear_ #[t] ty #[.map (some b)]).run P w=.ok (.tuple #[]) { w with heap:=w.heap.setIfInBounds b (.map #[] clock) }:=by
 simp only [Builtin.clear_,List.getElem?_toArray,List.getElem?_cons_zero,Sem.run_bind,run_underlying ht w,Result.andThen_ok]
 simp [Go.getObj,Go.setObj,Sem.run,h]
theorem wpList_clear_map {P:Program} {ops:Array Oper} {rest:List Oper} {o:Oper} {a:Act} {w:World} {Q:Exit→Act→World→Prop} (hg:o.guard=none) (m:Operand) (t k e:TypeId) (ht:P.underlying t=some (.map k e))
 (ho:o.op=.call { callee:=.builtin .clear,args:=#[m],argTypes:=#[t] }) (b:Nat) (es:Array MapEntry) (clock:Nat) (hm:a.eval m=.map (some b)) (hb:w.heap[b]? = some (.map es clock))
 (hK:wpList P ops Q rest (a.put o.dst (.tuple #[])) { w with heap:=w.heap.setIfInBounds b (.map #[] clock) }):wpList P ops Q (o::rest) a w:=by
 refine wpList_plain hg fun K hK'=>?_
 have hrun:=run_clear_map (P:=P) w t k e o.type ht b es clock hb
 unfold Oper.wp
 simp [execOp,ho,resolve,invoke,builtin,hm,hrun,Result.andThen]
 exact hK' _ _ hK
theorem run_copy_str {P:Program} (w:World) (dT sT ty elem:TypeId) (g o dLen dCap:Nat) (l:List UInt8) (cur:List Value) (t:TypeId)
 (hu:P.underlying dT=some (.slice elem)) (hs:(P.info? elem).map (·.size)=some 1) (hg:Blk w g cur t) (hfit:o+(l.take dLen).length≤cur.length) :
 (Builtin.copy_ #[dT,sT] ty #[.slice (some ⟨g,o,none⟩) dLen dCap,.string ⟨l.toArray⟩]).run P w =
  .ok (goInt (l.take dLen).length) (w.setRow g (lay cur o (bvs (l.take dLen))).toArray):=by
 have hst:=run_storeCells_at P g o t (bvs (l.take dLen)) 0 cur.toArray w hg (by simpa using hfit) (bvs_one _)
 have hmin:Nat.min l.length dLen=(l.take dLen).length:=by rw [List.length_take,Nat.min_comm]
 have htk:List.take (l.take dLen).length (List.map (fun b:UInt8=>Value.int IntKind.u8 (b.toNat:Int)) l)=bvs (l.take dLen):=by
  show List.take _ (List.map bv l)=List.map bv (List.take dLen l)
  rw [List.map_take,List.take_eq_take_iff]
  simp
 simp only [Nat.add_zero] at hst
 cases hq:P.info? elem with
 |none=>simp [hq] at hs
 |some i=>
  simp [Builtin.copy_,run_underlying hu,Builtin.lenOf,Builtin.firstCells,sizeOf,typeInfo,hq,ByteArray.size]
  rw [hmin,htk,hst]
  simp [Result.andThen,lay]
theorem wpList_copy_str {P:Program} {ops:Array Oper} {rest:List Oper} {op:Oper} {a:Act} {w:World} {Q:Exit→Act→World→Prop} (hgd:op.guard=none) (d s:Operand) (dT sT elem:TypeId)
 (ho:op.op=.call { callee:=.builtin .copy,args:=#[d,s],argTypes:=#[dT,sT] }) (hu:P.underlying dT=some (.slice elem)) (hs:(P.info? elem).map (·.size)=some 1)
 (g o dLen dCap:Nat) (l:List UInt8) (cur:List Value) (t:TypeId) (hd:a.eval d=.slice (some ⟨g,o,none⟩) dLen dCap) (hx:a.eval s=.string ⟨l.toArray⟩) (hg:Blk w g cur t) (hfit:o+(l.take dLen).length≤cur.length)
 (h:wpList P ops Q rest (a.put op.dst (goInt (l.take dLen).length)) (w.setRow g (lay cur o (bvs (l.take dLen))).toArray)):wpList P ops Q (op::rest) a w:=
 Lib.wpList_copy_run w hgd d s dT sT ho _ _ hd hx (run_copy_str w dT sT op.type elem g o dLen dCap l cur t hu hs hg hfit) h
theorem wpList_copy_str_top {P:Program} {ops:Array Oper} {rest:List Oper} {op:Oper} {a:Act} {w:World} {Q:Exit→Act→World→Prop} (hgd:op.guard=none) (d s:Operand) (dT sT elem:TypeId)
 (ho:op.op=.call { callee:=.builtin .copy,args:=#[d,s],argTypes:=#[dT,sT] }) (hu:P.underlying dT=some (.slice elem)) (hs:(P.info? elem).map (·.size)=some 1)
 (o dLen dCap:Nat) (l:List UInt8) (cur new:List Value) (t:TypeId) (hd:a.eval d=.slice (some ⟨w.heap.size,o,none⟩) dLen dCap) (hx:a.eval s=.string ⟨l.toArray⟩) (hfit:o+(l.take dLen).length≤cur.length) (hnew:lay cur o (bvs (l.take dLen))=new)
 (h:wpList P ops Q rest (a.put op.dst (goInt (l.take dLen).length)) (w.alloc (.cells new.toArray t))):wpList P ops Q (op::rest) a (w.alloc (.cells cur.toArray t)):=by
 refine wpList_copy_str hgd d s dT sT elem ho hu hs w.heap.size o dLen dCap l cur t hd hx (heap_alloc_new w _) hfit ?_
 rw [World.setRow_alloc_new,hnew]
 exact h
theorem wpList_build_as {P:Program} {ops:Array Oper} {rest:List Oper} {op:Oper} {a:Act} {w:World} {Q:Exit→Act→World→Prop} (hgd:op.guard=none) (t:TypeId) (parts:List (Nat × Operand)) (ho:op.op=.build t parts.toArray)
 (cells:Array Value) (hb:P.built t (parts.map fun (i,x)=>(i,a.eval x))=some cells) (h:wpList P ops Q rest (a.put op.dst (.agg cells)) w):wpList P ops Q (op::rest) a w:=by
 have e:(parts.toArray.map fun (i,x)=>(i,a.eval x)).toList=parts.map fun (i,x)=>(i,a.eval x):=by simp
 exact wpList_build hgd t parts.toArray ho (by rw [e,hb];rfl) (by rw [e,hb];exact h)
theorem foldl_set_all (l:List Value):∀ (k:Nat) (base:Array Value),k+l.length≤base.size→
 ((l.zipIdx k).foldl (fun (cs:Array Value) (x:Value × Nat)=>cs.setIfInBounds x.2 x.1) base).toList=base.toList.take k++(l++base.toList.drop (k+l.length)):=by
 induction l with
 |nil=>intro k base h;simp
 |cons v l ih=>
  intro k base h
  simp only [List.length_cons] at h
  rw [List.zipIdx_cons,List.foldl_cons,ih (k+1) _ (by simp;omega)]
  simp only [Array.toList_setIfInBounds,List.length_cons]
  have e1:(base.toList.set k v).take (k+1)=base.toList.take k++[v]:=by
   rw [List.take_set]
   rw [List.take_succ_eq_append_getElem (by simp;omega),List.set_append_right _ _ (by simp;omega)]
   simp [show min k base.size=k by omega]
  have e2:(base.toList.set k v).drop (k+1+l.length)=base.toList.drop (k+(l.length+1)):=by
   rw [List.drop_set_of_lt (by omega)]
   congr 1;omega
  rw [e1,e2]
  simp
theorem fill_one (size:Nat) (v:Value) (base:Array Value) (h1:v.cells.size=size) (h2:base.size=size) :
 Instr.fill (fun i=>some (i*size,size)) base [(0,v)]=some v.cells:=by
 simp only [Instr.fill]
 rw [if_neg (by simp [h1,h2])]
 congr 1
 rw [← Array.toList_inj]
 have e:=foldl_set_all v.cells.toList 0 base (by simp;omega)
 simp only [List.take_zero,List.nil_append] at e
 rw [List.drop_eq_nil_of_le (by simp;omega),List.append_nil] at e
 rw [← e]
 congr 1
 rw [← Array.foldl_toList]
 simp only [Array.toList_zipIdx,Nat.zero_mul,Nat.zero_add]
theorem run_buildSlice_one {P:Program} (w:World) (t e:TypeId) (i:TypeInfo) (z:Value) (v:Value) (ht:P.underlying t=some (.slice e)) (hi:P.info? e=some i) (hz:i.zero=some z) (hs:v.cells.size=i.size) (hsz:i.size≤16777216) (h0:0<i.size) :
 (Instr.buildSlice t 1 #[(0,v)]).run P w=.ok (.slice (some ⟨w.heap.size,0,none⟩) 1 1) (w.alloc (.cells v.cells e)):=by
 have hne:¬ i.size=0:=by omega
 have hf:=fill_one i.size v ((Array.range i.size).map fun x=>z.cells[x % z.cells.size]!) hs (by simp)
 simp [Instr.buildSlice,run_underlying ht,sizeOf,typeInfo,hi,zeroValue,hz,hne,show ¬ 16777216<i.size by omega,hf,newRow]
theorem wp_buildSlice_one {P:Program} {op:Oper} {a:Act} {w:World} {K:Act→World→Prop} {Q:Exit→Act→World→Prop} (t e:TypeId) (x:Operand) (ho:op.op=.buildSlice t 1 #[(0,x)])
 (ht:P.underlying t=some (.slice e)) (n:Nat) (hi:(P.info? e).map (fun i=>(i.zero.isSome,i.size))=some (true,n)) (v:Value) (hx:a.eval x=v) (cells:Array Value) (hc:v.cells=cells) (hs:cells.size=n) (hn:n≤16777216) (h0:0<n)
 (h:K (a.put op.dst (.slice (some ⟨w.heap.size,0,none⟩) 1 1)) (w.alloc (.cells cells e))):op.wp P a w K Q:=by
 subst hc
 cases hq:P.info? e with
 |none=>simp [hq] at hi
 |some i=>
  simp [hq] at hi
  obtain ⟨hi1,rfl⟩:=hi
  cases hz:i.zero with
  |none=>simp [hz] at hi1
  |some z=>
   have hr:=run_buildSlice_one (P:=P) w t e i z v ht hq hz hs hn h0
   unfold Oper.wp execOp
   simp only [ho,List.map_toArray,List.map_cons,List.map_nil,hx,Sem.run_bind,Sem.run_pure,Result.andThen_ok,hr]
   exact h
theorem wp_region_tail {P:Program} {id:Nat} {Q:Exit→Act→World→Prop} {a:Act} {w:World} {l:List Oper} (n:Nat) (hm:P.follows .mixedOrders=true) (hB:Region.lexTailB .any l.toArray n=true)
 (h:wpStill P l.toArray w.drew (fun a'=>wpList P l.toArray Q (l.drop n) a' w.drew) (l.take n) a):(Code.region id l.toArray true).wp P Q a w:=
 wp_region_still_tail n hm hB h
theorem wpList_append_row {P:Program} {ops:Array Oper} {rest:List Oper} {op:Oper} {a:Act} {w:World} {Q:Exit→Act→World→Prop} (hgd:op.guard=none) (s x:Operand) (t e:TypeId)
 (ho:op.op=.call { callee:=.builtin .append,args:=#[s,x],argTypes:=#[t,t] }) (ht:P.underlying t=some (.slice e)) (size bytes:Nat)
 (hi:(P.info? e).map (fun i=>(i.zero.map (·.cells.size),i.size,i.bytes))=some (some size,size,bytes)) (hsz:0<size)
 (v:Value) (n:Nat) (xs:List Value) (hs:a.eval s=v) (hown:w.ownsRow 0 e size v n xs) (b o m c:Nat) (news:List Value) (hx:a.eval x=.slice (some ⟨b,o,none⟩) m c) (hl:news.length=m*size)
 (hnews:w.rangeAt b o news) (h1:∀ u ∈ news,u.oneCell'=true) (h63:n+m≤maxLen) (hbytes:(n+m)*bytes≤140737488355328)
 (h:∀ v' w',Go.RowKit.Hid (w'.ownsRow 0 e size v' (n+m) (xs++news)∧w.grownBy w' v.ownBlock∧(v'.ownBlock=v.ownBlock∨v'.ownBlock=some w.heap.size))→wpList P ops Q rest (a.put op.dst v') w'):wpList P ops Q (op::rest) a w:=by
 cases hq:P.info? e with
 |none=>simp [hq] at hi
 |some i=>
  simp [hq] at hi
  obtain ⟨⟨z,hz,hzc⟩,hs1,hb1⟩:=hi
  exact wpList_append_own_at w hgd s x t ho 0 e i z size bytes ht hq hz hs1 hb1 hzc hsz v n xs hs hown ⟨b,o,none⟩ m c news hx hl (fun j u hj=>by rw [Addr.add_mid];exact hnews j u hj) h1 h63 hbytes (Nat.zero_le _)
   (fun v' w' r1 r2 _ r4=>h v' w' ⟨r1,r2,r4⟩)
theorem run_store_lay {P:Program} (w:World) (g o:Nat) (ty:TypeId) (cur vs:List Value) (T:TypeId) (hg:Blk w g cur T) (hfit:o+vs.length≤cur.length) (hi:(P.info? ty).map (·.size)=some vs.length) (h1:∀ v ∈ vs,v.oneCell'=true) :
 (Instr.storeAt ty (.pointer (some ⟨g,o,none⟩)) (.agg vs.toArray)).run P w=.ok () (w.setRow g (lay cur o vs).toArray):=by
 have hst:=run_storeCells_at P g o T vs 0 cur.toArray w hg (by simpa using hfit) h1
 cases hq:P.info? ty with
 |none=>simp [hq] at hi
 |some i=>
  have hs:vs.length=i.size:=by simp [hq] at hi;omega
  simp only [Nat.add_zero] at hst
  simp [Instr.storeAt,Instr.sureAddr,storeVar,sizeOf,typeInfo,hq,Value.cells,hs,hst,lay]
theorem wpList_store_lay {P:Program} {ops:Array Oper} {rest:List Oper} {op:Oper} {a:Act} {w:World} {Q:Exit→Act→World→Prop} (hgd:op.guard=none) (ty:TypeId) (x y:Operand) (ho:op.op=.store ty x y)
 (g o:Nat) (cur vs:List Value) (T:TypeId) (hx:a.eval x=.pointer (some ⟨g,o,none⟩)) (hy:a.eval y=.agg vs.toArray) (hg:Blk w g cur T) (hfit:o+vs.length≤cur.length) (hi:(P.info? ty).map (·.size)=some vs.length) (h1:∀ v ∈ vs,v.oneCell'=true)
 (h:wpList P ops Q rest (a.put op.dst undef) (w.setRow g (lay cur o vs).toArray)):wpList P ops Q (op::rest) a w:=by
 refine wpList_plain hgd fun K hK=>?_
 have hr:=run_store_lay (P:=P) w g o ty cur vs T hg hfit hi h1
 unfold Oper.wp execOp
 simp only [ho,hx,hy,Sem.run_bind,Sem.run_pure,Result.andThen_ok,hr]
 exact hK _ _ h
theorem wpList_make_zero {P:Program} {ops:Array Oper} {rest:List Oper} {op:Oper} {a:Act} {w:World} {Q:Exit→Act→World→Prop} (hgd:op.guard=none) (lo c:Operand) (t e:TypeId) (ho:op.op=Op.makeSlice t lo c)
 (ht:P.underlying t=some (.slice e)) (size bytes:Nat) (zc:Array Value) (hi:(P.info? e).map (fun i=>(i.zero.map (·.cells),i.size,i.bytes))=some (some zc,size,bytes))
 (C:Int) (n:Nat) (hl:a.eval lo=.int .i64 C) (hc:a.eval c=.int .i64 C) (hC:C=(n:Int)) (hb:bytes*n≤281474976710656) (h3:n≤maxLen)
 (h:∀ w',Go.RowKit.Hid (Blk w' w.heap.size (madeCells zc (n*size)).toList e∧w.grownBy w' none)→wpList P ops Q rest (a.put op.dst (.slice (some ⟨w.heap.size,0,none⟩) n n)) w'):wpList P ops Q (op::rest) a w:=by
 cases hq:P.info? e with
 |none=>simp [hq] at hi
 |some i=>
  simp [hq] at hi
  obtain ⟨⟨z,hz,hzc⟩,hs1,hb1⟩:=hi
  refine wpList_make_full w hgd lo c t ho 0 e i z size ht hq hz hs1 .i64 .i64 C C n hl hc hC hC (by rw [hb1];exact hb) h3 (Nat.zero_le _) (fun w' r1 r2=>h w' ⟨?_,r2⟩)
  rw [hzc] at r1
  rcases r1.2 with ⟨h1,_⟩|⟨g,cap,cur,hv,_,hh,_,_,hsz,htk⟩
  ·cases h1
  ·cases hv
   unfold Blk
   rw [hh]
   have:cur.toList=(madeCells zc (n*size)).toList:=by rw [← htk,List.take_of_length_le (by simp [hsz])]
   rw [← this]
theorem run_index_cell {P:Program} (w:World) (T e:TypeId) (n:Nat) (hu:P.underlying T=some (.array n e)) (hag:(isAgg e).run P w=.ok false w) (hs:(P.info? e).map (·.size)=some 1) (cs:List Value) (j:Nat) (hj:j<n) (v:Value) (hv:cs[j]? = some v) :
 (Instr.index T (.agg cs.toArray) (.int .i64 j)).run P w=.ok v w:=by
 cases hq:P.info? e with
 |none=>simp [hq] at hs
 |some i=>
  have hi:i.size=1:=by simpa [hq] using hs
  simp [Instr.index,asIntOf,run_underlying hu,sizeOf,typeInfo,hq,hi,part,hag,hv,hj]
theorem wpList_index_cell {P:Program} {ops:Array Oper} {rest:List Oper} {op:Oper} {a:Act} {w:World} {Q:Exit→Act→World→Prop} (hgd:op.guard=none) (T e:TypeId) (x i:Operand) (ho:op.op=.index T x i)
 (n:Nat) (hu:P.underlying T=some (.array n e)) (hag:(isAgg e).run P w=.ok false w) (hs:(P.info? e).map (·.size)=some 1) (cs:List Value) (j:Nat) (hx:a.eval x=.agg cs.toArray) (hi:a.eval i=.int .i64 j) (hj:j<n) (v:Value) (hv:cs[j]? = some v)
 (h:wpList P ops Q rest (a.put op.dst v) w):wpList P ops Q (op::rest) a w:=by
 refine wpList_plain hgd fun K hK=>?_
 have hr:=run_index_cell (P:=P) w T e n hu hag hs cs j hj v hv
 unfold Oper.wp execOp
 simp only [ho,hx,hi,Sem.run_bind,Sem.run_pure,Result.andThen_ok,hr]
 exact hK _ _ h
end Go.Proofs.YtgipenahkmbelaaGreatDoor
namespace Go.Proofs.YtgipenahkmbelaaGreatDoor
open Go Go.RowKit
inductive Cut:List Value→Nat→Nat→List Value→Prop
 |nil {cs:List Value}:Cut cs 0 0 []
 |cons {c:Value} {cs vs:List Value} {m:Nat}:Cut cs 0 m vs→Cut (c::cs) 0 (m+1) (c::vs)
 |skip {c:Value} {cs vs:List Value} {k m:Nat}:Cut cs k m vs→Cut (c::cs) (k+1) m vs
theorem Cut.spec {cs vs:List Value} {k m:Nat} (h:Cut cs k m vs):vs.length=m∧∀ j v,vs[j]? = some v→cs[k+j]? = some v:=by
 induction h with
 |nil=>exact ⟨rfl,fun j v h=>by simp at h⟩
 |cons _ ih=>
  refine ⟨by simp [ih.1],fun j v h=>?_⟩
  cases j with
  |zero=>simpa using h
  |succ j=>have:=ih.2 j v (by simpa using h);rw [← this];simp
 |skip _ ih=>
  refine ⟨ih.1,fun j v h=>?_⟩
  have:=ih.2 j v h
  rw [← this,Nat.add_right_comm];simp
theorem Cut.of {cs:List Value} {k m:Nat} (h:k+m≤cs.length):Cut cs k m ((cs.drop k).take m):=by
 induction cs generalizing k m with
 |nil=>simp at h;obtain ⟨rfl,rfl⟩:=h;exact .nil
 |cons c cs ih=>
  cases k with
  |zero=>
   cases m with
   |zero=>simpa using Cut.nil
   |succ m=>simpa using Cut.cons (ih (k:=0) (m:=m) (by simp at h ⊢;omega))
  |succ k=>simpa using Cut.skip (ih (k:=k) (m:=m) (by simp at h ⊢;omega))
inductive Laid:List Value→Nat→List Value→List Value→Prop
 |nil {cs:List Value}:Laid cs 0 [] cs
 |cons {c v:Value} {cs vs cs':List Value}:Laid cs 0 vs cs'→Laid (c::cs) 0 (v::vs) (v::cs')
 |skip {c:Value} {cs vs cs':List Value} {k:Nat}:Laid cs k vs cs'→Laid (c::cs) (k+1) vs (c::cs')
theorem Laid.spec {cs vs cs':List Value} {k:Nat} (h:Laid cs k vs cs'):k+vs.length≤cs.length∧cs'=lay cs k vs:=by
 induction h with
 |nil=>simp [lay]
 |cons _ ih=>obtain ⟨a,rfl⟩:=ih;simp at a ⊢;exact ⟨a,by simp [lay]⟩
 |skip _ ih=>obtain ⟨a,rfl⟩:=ih;simp at a ⊢;exact ⟨by omega,by simp [lay,Nat.add_right_comm]⟩
theorem Laid.of {cs vs:List Value} {k:Nat} (h:k+vs.length≤cs.length):Laid cs k vs (lay cs k vs):=by
 induction cs generalizing k vs with
 |nil=>simp at h;obtain ⟨rfl,rfl⟩:=h;simpa [lay] using Laid.nil
 |cons c cs ih=>
  cases k with
  |zero=>
   cases vs with
   |nil=>simpa [lay] using Laid.nil
   |cons v vs=>simpa [lay] using Laid.cons (c:=c) (v:=v) (ih (k:=0) (vs:=vs) (by simp at h ⊢;omega))
  |succ k=>
   have:=Laid.skip (c:=c) (ih (k:=k) (vs:=vs) (by simp at h ⊢;omega))
   simpa [lay,Nat.add_right_comm] using this
inductive Ones:List Value→Prop
 |nil:Ones []
 |cons {v:Value} {vs:List Value}:v.oneCell'=true→Ones vs→Ones (v::vs)
theorem Ones.all {vs:List Value} (h:Ones vs):∀ v ∈ vs,v.oneCell'=true:=by
 induction h with
 |nil=>intro v h;cases h
 |cons a _ ih=>intro v h;rcases List.mem_cons.1 h with h|h;subst h;exact a;exact ih v h
theorem Ones.of {vs:List Value} (h:∀ v ∈ vs,v.oneCell'=true):Ones vs:=by
 induction vs with
 |nil=>exact .nil
 |cons v vs ih=>exact .cons (h v (by simp)) (ih fun u hu=>h u (by simp [hu]))
theorem Ones_bvs (l:List UInt8):Ones (bvs l):=.of (bvs_one l)
theorem xC {cs vs:List Value} {k m:Nat} (h:Cut cs k m vs:=by (repeat' (first|exact Cut.nil|apply Cut.cons|apply Cut.skip));first|done|fail):Cut cs k m vs:=h
theorem xL {cs vs cs':List Value} {k:Nat} (h:Laid cs k vs cs':=by (repeat' (first|exact Laid.nil|apply Laid.cons|apply Laid.skip));first|done|fail):Laid cs k vs cs':=h
theorem xO {vs:List Value} (h:Ones vs:=by (repeat' (first|exact Ones.nil|exact Ones_bvs _|refine Ones.cons rfl ?_));first|done|fail):Ones vs:=h
inductive CellsOf:Value→List Value→Prop
 |agg {vs:List Value}:CellsOf (.agg vs.toArray) vs
 |one {v:Value}:v.oneCell'=true→CellsOf v [v]
theorem xF {v:Value} {vs:List Value} (h:CellsOf v vs:=by first|exact CellsOf.agg|exact CellsOf.one rfl):CellsOf v vs:=h
theorem CellsOf.spec {v:Value} {vs:List Value} (h:CellsOf v vs):v.cells=vs.toArray:=by
 cases h with
 |agg=>rfl
 |one h=>cases v <;> first|rfl|(simp [Value.oneCell'] at h)
section
variable {P:Program} {W:World} {n:Nat} {E:Env} {H H' R:List SP} {x y z:Operand} {t u T:TypeId} {d:TypeDesc} {b off:Nat}
theorem run_isAgg_of (hu:P.underlying t=some d) (w:World):(isAgg t).run P w=.ok (isAggD d) w:=by
 unfold isAgg isAggD
 cases d <;> simp [run_underlying hu]
theorem run_loadAt_one (w:World) {v:Value} (hc:w.cell? ⟨b,off,none⟩=some v) (hu:P.underlying t=some d) (hd:isAggD d=false):(Instr.loadAt t (.pointer (some ⟨b,off,none⟩))).run P w=.ok v w:=by
 simp [Instr.loadAt,Instr.sureAddr,loadVar,run_isAgg_of hu,hd,Go.load,Sem.run,hc,Result.andThen]
theorem isRow_of (hd:isAggD d=true):d.isRow=true:=by cases d <;> simp_all [isAggD,TypeDesc.isRow]
theorem Ev_load {cs:List Value} {v:Value} (hx:Env.ev E x=some (.pointer (some ⟨b,off,none⟩))) [hu:ScIs P t] (hs:Sel (zAh b cs T) H R) (hv:cs[off]? = some v):Ev P W n E H (.load t x) v:=
 Ev.mk fun o ho a w p q=>by
  have hc:w.cell? ⟨b,off,none⟩=some v:=by rw [(q.blk hs).2.cell];exact hv
  obtain ⟨d,hu,hd⟩:=hu.h
  simp [execOp,ho,p.ev hx,run_loadAt_one w hc hu hd,Result.andThen]
theorem zAt {v:Value} (hx:Env.ev E x=some (.pointer (some ⟨b,off,none⟩))) [hu:ScIs P t] (hc:W.cell? ⟨b,off,none⟩=some v):Ev P W n E H (.load t x) v:=
 Ev.mk fun o ho a w p q=>by
  obtain ⟨d,hu,hd⟩:=hu.h
  simp [execOp,ho,p.ev hx,run_loadAt_one w (q.old hc) hu hd,Result.andThen]
theorem Ev_loadAgg {cs vs:List Value} {m:Nat} (hx:Env.ev E x=some (.pointer (some ⟨b,off,none⟩))) [hu:AgIs P t] [hi:SzIs P t m] (hs:Sel (zAh b cs T) H R) (hv:Cut cs off m vs):Ev P W n E H (.load t x) (.agg vs.toArray):=
 Ev.mk fun o ho a w p q=>by
  have hc:w.rangeAt b off vs:=fun j v hj=>by rw [(q.blk hs).2.cell];exact hv.spec.2 j v hj
  obtain ⟨d,hu,hd⟩:=hu.h
  have:=run_loadAt_mid (P:=P) w b off t vs d hc hu (isRow_of hd) (by rw [hv.spec.1];exact hi.h)
  simp [execOp,ho,p.ev hx,this,Result.andThen]
theorem St.oldRange {w:World} (q:St W H w) {vs:List Value} (hc:W.rangeAt b off vs):w.rangeAt b off vs:=fun j v hj=>q.old (hc j v hj)
theorem Ev_field {f ft off' s:Nat} (hx:Env.ev E x=some (.pointer (some ⟨b,off,none⟩))) [hu:FldIs P t f ft off'] [hi:SzIs P ft (s+1)]:Ev P W n E H (.fieldAddr t x f) (.pointer (some ⟨b,off+off',none⟩)):=
 Ev.mk fun o ho a w p _=>by
  obtain ⟨fs,fd,hq1,hf,rfl,rfl⟩:=hu.h
  have hi:=hi.h
  cases hq:P.info? fd.type with
  |none=>simp [hq] at hi
  |some i=>
   have hi:i.size=s+1:=by simpa [hq] using hi
   simp [execOp,ho,p.ev hx,Instr.fieldAt,run_underlying hq1,hf,Instr.sureAddr,fieldPlace,sizeOf,typeInfo,hq,hi,Addr.add_mid]
theorem Ev_fieldVal {f ft off':Nat} {vs:List Value} {v:Value} (hx:Env.ev E x=some (.agg vs.toArray)) [hu:FldIs P t f ft off'] [hs:ScIs P ft] (hv:vs[off']? = some v):Ev P W n E H (.field t x f) v:=
 Ev.mk fun o ho a w p _=>by
  obtain ⟨fs,fd,hq1,hf,rfl,rfl⟩:=hu.h
  obtain ⟨d,hu',hd⟩:=hs.h
  simp [execOp,ho,p.ev hx,Instr.field,run_underlying hq1,hf,asAgg,part,run_isAgg_of hu',hd,hv,Result.andThen]
theorem Ev_indexSlice {e:TypeId} {i:Int} {k:IntKind} {m c s:Nat} (hx:Env.ev E x=some (.slice (some ⟨b,off,none⟩) m c)) (hy:Env.ev E y=some (.int k i)) [hu:UIs P t (.slice e)] [hi:SzIs P e s] (hb:0≤i∧i<m):Ev P W n E H (.indexAddr t x y) (.pointer (some ⟨b,off+i.toNat*s,none⟩)):=
 Ev.mk fun o ho a w p _=>by
  have hi:=hi.h
  cases hq:P.info? e with
  |none=>simp [hq] at hi
  |some j=>
   have hi:j.size=s:=by simpa [hq] using hi
   simp [execOp,ho,p.ev hx,p.ev hy,Instr.indexAt,asIntOf,run_underlying hu.h,sizeOf,typeInfo,hq,hi,hb,Addr.add_mid]
theorem Ev_indexArr {e:TypeId} {i:Int} {k:IntKind} {m s:Nat} (hx:Env.ev E x=some (.pointer (some ⟨b,off,none⟩))) (hy:Env.ev E y=some (.int k i)) [hu:UIs P t (.array m e)] [hi:SzIs P e s] (hb:0≤i∧i<m):Ev P W n E H (.indexAddr t x y) (.pointer (some ⟨b,off+i.toNat*s,none⟩)):=
 Ev.mk fun o ho a w p _=>by
  have hi:=hi.h
  cases hq:P.info? e with
  |none=>simp [hq] at hi
  |some j=>
   have hi:j.size=s:=by simpa [hq] using hi
   simp [execOp,ho,p.ev hx,p.ev hy,Instr.indexAt,asIntOf,run_underlying hu.h,sizeOf,typeInfo,hq,hi,hb,Addr.add_mid,Instr.sureAddr]
theorem Ev_indexStr {l:List UInt8} {i:Int} {k:IntKind} {c:UInt8} (hx:Env.ev E x=some (strV l)) (hy:Env.ev E y=some (.int k i)) [hu:UIs P t .string] (h0:0≤i) (hc:l[i.toNat]? = some c):Ev P W n E H (.index t x y) (.int .u8 c.toNat):=
 Ev.mk fun o ho a w p _=>by
  have hl:i.toNat<l.length:=(List.getElem?_eq_some_iff.1 hc).1
  have:(⟨l.toArray⟩:ByteArray)[i.toNat]? = some c:=by
   rw [getElem?_pos _ _ (by simpa [ByteArray.size] using hl)]
   rw [List.getElem?_eq_getElem hl] at hc
   cases hc;rfl
  simp [execOp,ho,p.ev hx,p.ev hy,Instr.index,asIntOf,run_underlying hu.h,h0,this]
theorem bsize (l:List UInt8):(⟨l.toArray⟩:ByteArray).size=l.length:=rfl
theorem extract_mk (l:List UInt8) (i j:Nat):(⟨l.toArray⟩:ByteArray).extract i j=⟨((l.take j).drop i).toArray⟩:=by
 apply ByteArray.ext
 simp [List.drop_take]
theorem Ev_sliceStr {l:List UInt8} {i j:Int} {ki kj:IntKind} (hx:Env.ev E x=some (strV l)) (hy:Env.ev E y=some (.int ki i)) (hz:Env.ev E z=some (.int kj j)) [hu:UIs P t .string] (hb:0≤i∧i≤j∧j≤l.length):Ev P W n E H (.slice t x (some y) (some z) none) (strV ((l.take j.toNat).drop i.toNat)):=
 Ev.mk fun o ho a w p _=>by
  have h1:0≤j:=by omega
  have h2:i≤max j 0:=by omega
  simp [execOp,ho,p.ev hx,p.ev hy,p.ev hz,Instr.sliceAt,Instr.slice,run_underlying hu.h,Instr.sliceBounds,Instr.sliceBound,asIntOf,h1,hb,bsize,extract_mk,h2]
theorem Ev_sliceStrTo {l:List UInt8} {j:Int} {kj:IntKind} (hx:Env.ev E x=some (strV l)) (hz:Env.ev E z=some (.int kj j)) [hu:UIs P t .string] (hb:0≤j∧j≤l.length):Ev P W n E H (.slice t x none (some z) none) (strV (l.take j.toNat)):=
 Ev.mk fun o ho a w p _=>by
  simp [execOp,ho,p.ev hx,p.ev hz,Instr.sliceAt,Instr.slice,run_underlying hu.h,Instr.sliceBounds,Instr.sliceBound,asIntOf,hb,bsize,extract_mk]
theorem Ev_sliceStrFrom {l:List UInt8} {i:Int} {ki:IntKind} (hx:Env.ev E x=some (strV l)) (hy:Env.ev E y=some (.int ki i)) [hu:UIs P t .string] (hb:0≤i∧i≤l.length):Ev P W n E H (.slice t x (some y) none none) (strV (l.drop i.toNat)):=
 Ev.mk fun o ho a w p _=>by
  simp [execOp,ho,p.ev hx,p.ev hy,Instr.sliceAt,Instr.slice,run_underlying hu.h,Instr.sliceBounds,Instr.sliceBound,asIntOf,hb,bsize,extract_mk]
end
end Go.Proofs.YtgipenahkmbelaaGreatDoor
namespace Go.Proofs.YtgipenahkmbelaaGreatDoor
open Go Go.RowKit
structure Ct (P:Program) (W:World) (f:FuncId) (args:List Value) (Hpre:List SP) {X:Type} (r:X→Value) (H':X→List SP):Prop where
 go:∀ R w,St W (Hpre++R) w→Calls P f args.toArray w fun e w'=>∃ x,e=.returned (r x)∧St W (H' x++R) w'
def Post (W:World) {X:Type} (r:X→Value) (H':X→List SP) (R:List SP):Ending→World→Prop:=fun e w=>∃ x,e=.returned (r x)∧St W (H' x++R) w
def Env.ofArgs:List Value→Nat→Env
 |[],_=>[]
 |v::vs,k=>(k,v)::Env.ofArgs vs (k+1)
theorem Env.ofArgs_at (vs:List Value):∀ k t v,Env.at (Env.ofArgs vs k) t=some v→k≤t∧vs[t-k]? = some v:=by
 induction vs with
 |nil=>intro k t v h;cases h
 |cons u vs ih=>
  intro k t v h
  simp only [Env.ofArgs] at h
  rw [Env.at_cons] at h
  split at h
  ·rename_i e;subst e;cases h;exact ⟨Nat.le_refl _,by simp⟩
  ·obtain ⟨h1,h2⟩:=ih (k+1) t v h
   refine ⟨by omega,?_⟩
   rw [show t-k=(t-(k+1))+1 by omega]
   simpa using h2
section
variable {P:Program} {W:World} {n:Nat} {q:QQ} {k:KK} {op:Op} {E:Env} {H H' R:List SP} {ops:Array Oper} {l:List Oper} {x y z:Operand} {t u T:TypeId} {b off:Nat} {d:Nat} {dd:Option Tmp} {X:Type}
theorem Ct.enter {f:FuncId} {args:List Value} {Hpre:List SP} {r:X→Value} {Hp:X→List SP} {fn:Func} {c:Code} (hf:P.funcs[f]? = some fn) (hb:fn.body=some c) (hn:fn.ntmps=n) (hk:args.length≤n)
 (h:∀ R,KJ W n (.code P c (.top (bodyPostM Fence.wide 0 P fn (Post W r Hp R)))) (Env.ofArgs args 0) (Hpre++R)):Ct P W f args Hpre r Hp:=by
 refine ⟨fun R w s=>?_⟩
 refine callsIn_wide.1 (callsIn_of_wp_marks (F:=Fence.wide) (n:=0) hf hb trivial ((h R).go _ w ⟨?_,fun t v e=>?_⟩ (s.perm (by show (Hpre++R).Perm ((Hpre++R)++[]);rw [List.append_nil]))))
 ·simp [hn];omega
 ·obtain ⟨_,h2⟩:=Env.ofArgs_at args 0 t v e
  have hl:=(List.getElem?_eq_some_iff.1 h2).1
  simp only [Nat.sub_zero] at h2 hl
  show (args.toArray++_)[t]? = _
  rw [Array.getElem?_append_left (by simpa using hl)]
  simpa using h2
theorem Ct.val {f:FuncId} {args:List Value} {Hpre:List SP} {r r':X→Value} {Hp:X→List SP} (h:Ct P W f args Hpre r Hp) (e:∀ x,r x=r' x):Ct P W f args Hpre r' Hp:=by
 have:r=r':=funext e
 subst this;exact h
inductive Rvs (P:Program) (E:Env) (H:List SP):List ResultVar→List Value→Prop
 |nil:Rvs P E H [] []
 |tmp {t:Nat} {v:Value} {rs:List ResultVar} {vs:List Value}:Env.at E t=some v→Rvs P E H rs vs→Rvs P E H (.tmp t::rs) (v::vs)
 |cell {a b T t:Nat} {v:Value} {cs:List Value} {R:List SP} {rs:List ResultVar} {vs:List Value}:Env.at E a=some (.pointer (some ⟨b,0,none⟩))→ScIs P t→Sel (zAh b cs T) H R→cs[0]? = some v→Rvs P E H rs vs→Rvs P E H (.cell a t::rs) (v::vs)
 |agg {a b T t m:Nat} {ws cs:List Value} {R:List SP} {rs:List ResultVar} {vs:List Value}:Env.at E a=some (.pointer (some ⟨b,0,none⟩))→AgIs P t→SzIs P t m→Sel (zAh b cs T) H R→Cut cs 0 m ws→Rvs P E H rs vs→Rvs P E H (.cell a t::rs) (.agg ws.toArray::vs)
def tupleV:List Value→Value
 |[v]=>v
 |vs=>.tuple vs.toArray
theorem run_loadVar_one (w:World) {v:Value} (hc:w.cell? ⟨b,off,none⟩=some v) [hu:ScIs P t]:(loadVar t ⟨b,off,none⟩).run P w=.ok v w:=by
 obtain ⟨d,hu,hd⟩:=hu.h
 have:=run_loadAt_one w hc hu hd
 simpa [Instr.loadAt,Instr.sureAddr] using this
theorem run_loadVar_agg (w:World) {vs:List Value} {m:Nat} (hc:w.rangeAt b off vs) (hl:vs.length=m) [hu:AgIs P t] [hi:SzIs P t m]:(loadVar t ⟨b,off,none⟩).run P w=.ok (.agg vs.toArray) w:=by
 obtain ⟨d,hu,hd⟩:=hu.h
 have:=run_loadAt_mid (P:=P) w b off t vs d hc hu (isRow_of hd) (by rw [hl];exact hi.h)
 simpa [Instr.loadAt,Instr.sureAddr] using this
def resOf (tmps:Array Value):ResultVar→Sem Value
 |.tmp t=>pure (tmps.getD t undef)
 |.cell b t=>do loadVar t (← asAddr (tmps.getD b undef))
theorem Rvs.run {rs:List ResultVar} {vs:List Value} (h:Rvs P E H rs vs) {a:Act} {w:World} (p:Hd n E a) (q:St W H w) :
 (rs.mapM (resOf a.tmps)).run P w=.ok vs w:=by
 induction h with
 |nil=>rfl
 |tmp e _ ih=>
  have h1:=p.at_ _ _ e
  rw [List.mapM_cons]
  simp [resOf,h1,ih,Result.andThen]
 |cell e sc s hv _ ih=>
  have h1:=p.at_ _ _ e
  have hc:=(q.blk s).2.cell 0
  rw [hv] at hc
  have h2:=run_loadVar_one (P:=P) w hc (hu:=sc)
  rw [List.mapM_cons]
  simp [resOf,h1,ih,h2,asAddr,Result.andThen]
 |agg e ag si s hv _ ih=>
  have h1:=p.at_ _ _ e
  have hc:w.rangeAt _ 0 _:=fun j v hj=>by rw [(q.blk s).2.cell];exact hv.spec.2 j v hj
  have h2:=run_loadVar_agg (P:=P) w hc hv.spec.1 (hu:=ag) (hi:=si)
  rw [List.mapM_cons]
  simp [resOf,h1,ih,h2,asAddr,Result.andThen]
theorem Rvs.results_run {fn:Func} {rs:List ResultVar} {vs:List Value} (hr:fn.results=rs.toArray) (h:Rvs P E H rs vs) {a:Act} {w:World} (p:Hd n E a) (q:St W H w):(Go.results fn a.tmps).run P w=.ok (tupleV vs) w:=by
 have h1:=h.run p q
 unfold Go.results
 rw [hr]
 have e:(rs.toArray.mapM (resOf a.tmps))=(List.toArray <$> rs.mapM (resOf a.tmps)):=by simp
 show (do let vs ← rs.toArray.mapM (resOf a.tmps);pure (if h:vs.size=1 then vs[0] else .tuple vs):Sem Value).run P w=_
 rw [e]
 simp [h1,Result.andThen]
 cases vs with
 |nil=>rfl
 |cons v vs=>cases vs <;> simp [tupleV]
inductive DropTo (R:List SP):List SP→Prop
 |refl:DropTo R R
 |there {A:SP} {H:List SP}:DropTo R H→DropTo R (A::H)
theorem DropTo.star {H:List SP} (d:DropTo R H):∀ g,zAj H g→zAj R g:=by
 induction d with
 |refl=>exact fun _ q=>q
 |there _ ih=>exact fun g ⟨h1,h2,_,_,c,_,e⟩=>ih g (starL_le c e)
theorem Ent.of {As H1:List SP} (p:Pick As H H1) (d:DropTo R H1):∀ g,zAj H g→zAj (As++R) g:=by
 intro g q
 have:=starL_perm p.perm g q
 obtain ⟨h1,h2,a,b,c,e,f⟩:=(zBp g).1 this
 exact (zBp g).2 ⟨h1,h2,a,b,c,e,d.star _ f⟩
theorem xN {As H1:List SP} (p:Pick As H H1:=by (repeat' (first|exact Pick.nil|apply Pick.cons|exact Sel.here|apply Sel.there));first|done|fail) (d:DropTo R H1:=by (repeat' (first|exact DropTo.refl|apply DropTo.there));first|done|fail):∀ g,zAj H g→zAj (As++R) g:=Ent.of p d
theorem leaves_marks {fn:Func} {tmps:Array Value} {v:Value} {r:X→Value} {Hp:X→List SP} (c:X) (hv:v=r c) (hE:∀ g,zAj H g→zAj (Hp c++R) g) (hr:∀ w,St W H w→(Go.results fn tmps).run P w=.ok v w) :
 ∀ (ds:List Deferred) (w:World),St W (H++dm ds) w→LeavesInM Fence.wide 0 P fn tmps (Post W r Hp R) ds .returning w:=by
 intro ds
 induction ds with
 |nil=>
  intro w s
  have s:St W H w:=s.left
  exact ⟨v,hr w s,c,by rw [hv],s.mono hE⟩
 |cons e ds ih=>
  intro w s
  refine ⟨by simp,.inl ?_⟩
  cases ht:e.target with
  |collected b=>
   have e1:dm (e::ds)=objP b (.deferred (some []))::dm ds:=by simp [dm,ht]
   rw [e1] at s
   have s:=s.perm List.perm_middle
   have hb:=(s.obj .here).2
   refine ⟨b,_,rfl,run_takeDeferred hb,ih _ ?_⟩
   have s2:St W (objP b (.deferred none)::(H++dm ds)) (w.putObj b (.deferred none)):=s.turn .here (fun h q=>q) (Hl.one_self _ _) rfl rfl rfl (by simp) (World.putObj_heap_same (Array.getElem?_eq_some_iff.1 hb).1) (fun k hk=>World.putObj_heap_other hk)
   exact s2.right (A:=[_])
  |_=>
   exfalso
   have e1:dm (e::ds)=factP False::dm ds:=by simp [dm,ht]
   rw [e1] at s
   exact (s.perm List.perm_middle).fact .here
theorem KJ_done {r:X→Value} {Hp:X→List SP} {fn:Func} {rs:List ResultVar} {vs:List Value} {ex:Exit} (hex:ex=.ret∨ex=.normal) (hr:fn.results=rs.toArray) (hv:Rvs P E H rs vs) (c:X) (hc:tupleV vs=r c) (hE:∀ g,zAj H g→zAj (Hp c++R) g):KJ W n (.ex (.top (bodyPostM Fence.wide 0 P fn (Post W r Hp R))) ex) E H:=by
 refine ⟨fun a w p q=>?_⟩
 have h1:=leaves_marks (P:=P) (fn:=fn) (tmps:=a.tmps) (R:=R) c hc hE (fun w s=>hv.results_run hr p s) a.defers w q
 rcases hex with rfl|rfl
 ·exact h1
 ·exact h1
theorem xdn {r:X→Value} {Hp:X→List SP} {fn:Func} {rs:List ResultVar} {vs:List Value} {ex:Exit} (c:X) (hr:fn.results=rs.toArray:=by rfl) (hex:ex=.ret∨ex=.normal:=by first|exact Or.inl rfl|exact Or.inr rfl) (hv:Rvs P E H rs vs:=by (repeat' (first|exact Rvs.nil|(apply Rvs.tmp;exact rfl)));first|done|fail) (hc:tupleV vs=r c:=by rfl) (hE:∀ g,zAj H g→zAj (Hp c++R) g:=by exact xN):KJ W n (.ex (.top (bodyPostM Fence.wide 0 P fn (Post W r Hp R))) ex) E H:=KJ_done hex hr hv c hc hE
theorem KJ_store {v:Value} {vs cs cs':List Value} {m:Nat} (hx:Env.ev E x=some (.pointer (some ⟨b,off,none⟩))) (hy:Env.ev E y=some v) [hi:SzIs P t m] (hs:Sel (zAh b cs T) H R) (hv:CellsOf v vs) (hl:vs.length=m) (h1:Ones vs) (hL:Laid cs off vs cs') (hr:Rep (zAh b cs T) (zAh b cs' T) H H')
 (h:KJ W n k E H'):KJ W n (.oper P (.store t x y) none k) E H:=by
 obtain ⟨hfit,rfl⟩:=hL.spec
 refine ⟨fun a w p s o ho hd=>?_⟩
 have hrun:=run_store_lay (P:=P) w b off t cs vs T (s.left.blk hs).2 hfit (by rw [hl];exact hi.h) h1.all
 have e:(Instr.storeAt t (.pointer (some ⟨b,off,none⟩)) v).run P w=(Instr.storeAt t (.pointer (some ⟨b,off,none⟩)) (.agg vs.toArray)).run P w:=by
  simp only [Instr.storeAt,storeVar,hv.spec]
  rfl
 show uponP P o a _ ((execOp a.eval o).run P w)
 have e2:(execOp a.eval o).run P w=.ok .skip (w.setRow b (lay cs off vs).toArray):=by
  simp [execOp,ho,p.ev hx,p.ev hy,e,hrun,Result.andThen]
 rw [e2]
 have:=h.go _ _ (p.put (d:=none) rfl undef) (s.setRow (hr.app _))
 rw [← hd] at this
 exact this
theorem KJ_new {cs:List Value} (hr:∀ o:Oper,o.op=op→∀ a w,Hd n E a→St W H w→(execOp a.eval o).run P w=.ok (.value (.pointer (some ⟨w.heap.size,0,none⟩))) (w.alloc (.cells cs.toArray T))) (hn:Nat.blt d n=true)
 (h:∀ g,KJ W n k ((d,.pointer (some ⟨g,0,none⟩))::E) (zAh g cs T::H)):KJ W n (.oper P op (some d) k) E H:=by
 refine ⟨fun a w p s o ho hd=>?_⟩
 show uponP P o a _ ((execOp a.eval o).run P w)
 rw [hr o ho a w p s.left]
 have:=(h _).go _ _ (p.put (d:=some d) hn _) s.new
 rw [← hd] at this
 exact this
theorem zAu {zs:List Value} [hz:ZcIs P t zs] (hn:Nat.blt d n=true) (h:∀ g,KJ W n k ((d,.pointer (some ⟨g,0,none⟩))::E) (zAh g zs t::H)):KJ W n (.oper P (.alloc t) (some d) k) E H:=
 KJ_new (fun o ho a w p s=>by
  have hz:=hz.h
  cases hq:P.info? t with
  |none=>simp [hq] at hz
  |some i=>
   simp [hq] at hz
   obtain ⟨z,hz1,hz2⟩:=hz
   simp [execOp,ho,Instr.alloc,zeroValue,typeInfo,hq,hz1,newVar,newRow,hz2,Go.newObj,Sem.run,Result.andThen]) hn h
theorem zBb {v:Value} {vs:List Value} (hy:Env.ev E y=some v) (hv:CellsOf v vs) (hn:Nat.blt d n=true) (h:∀ g,KJ W n k ((d,.pointer (some ⟨g,0,none⟩))::E) (zAh g vs t::H)):KJ W n (.oper P (.box t y) (some d) k) E H:=
 KJ_new (fun o ho a w p s=>by
  simp [execOp,ho,p.ev hy,Instr.box,newVar,newRow,hv.spec,Go.newObj,Sem.run,Result.andThen]) hn h
theorem run_call {o:Oper} {f:FuncId} {xs:List Operand} {ts:Array TypeId} {vs:List Value} (ho:o.op=.call { callee:=.value (.func f),args:=xs.toArray,argTypes:=ts }) (hx:Evs E xs vs) [hf:FnIs P f] {a:Act} (p:Hd n E a) (w:World):(execOp a.eval o).run P w=.ok (.enter f vs.toArray) w:=by
 have hf:=hf.h
 cases hq:P.funcs[f]? with
 |none=>simp [hq] at hf
 |some fn=>
  simp [hq] at hf
  obtain ⟨h1,h2⟩:=hf
  have e:a.eval (.func f)=.func (.func f) #[] #[]:=rfl
  have hb:¬ fn.body=none:=by cases h:fn.body <;> simp_all
  have hv:=p.evs hx
  simp [execOp,ho,resolve,e,Deferred.ofValue,invoke,callFunc,Go.program,Sem.run,hq,h2,hb,hv,Result.andThen]
theorem KJ_call' {f:FuncId} {xs:List Operand} {ts:Array TypeId} {vs:List Value} {Hpre:List SP} {r:X→Value} {Hp:X→List SP} (hx:Evs E xs vs) [hf:FnIs P f]
 (hc:Ct P W f vs Hpre r Hp) (hp:Pick Hpre H R) (hn:dstOk n dd=true) (h:∀ c,KJ W n k (Env.put E dd (r c)) (Hp c++R)):KJ W n (.oper P (.call { callee:=.value (.func f),args:=xs.toArray,argTypes:=ts }) dd k) E H:=by
 refine ⟨fun a w p s o ho hd=>?_⟩
 subst hd
 show uponP P o a _ ((execOp a.eval o).run P w)
 rw [run_call ho hx p w]
 refine (hc.go (R++dm a.defers) w (s.perm ((hp.perm.append_right _).trans (by rw [List.append_assoc])))).mono ?_
 rintro e w' ⟨c,rfl,s⟩
 refine ⟨_,rfl,(h c).go _ w' (p.put hn _) ?_⟩
 show St W (_++dm (a.put o.dst _).defers) w'
 rw [put_defers,List.append_assoc];exact s
theorem zAc {f:FuncId} {xs:List Operand} {ts:Array TypeId} {vs:List Value} {Hpre:List SP} {r:X→Value} {Hp:X→List SP} (hx:Evs E xs vs) [hf:FnIs P f]
 (hc:Ct P W f vs Hpre r Hp) (hp:Pick Hpre H R) (hn:Nat.blt d n=true) (h:∀ c,KJ W n k ((d,r c)::E) (Hp c++R)):KJ W n (.oper P (.call { callee:=.value (.func f),args:=xs.toArray,argTypes:=ts }) (some d) k) E H:=
 KJ_call' hx hc hp hn h
end
end Go.Proofs.YtgipenahkmbelaaGreatDoor
