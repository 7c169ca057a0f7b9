/-
  Bld, Are, Are2.
-/
import Derived.Test.YtlnbkbfblhofbaaGreatDoorVDP
import Derived.Lib.Builder
import Derived.Lib.UnsafeStr
import Derived.Laws.Externs
set_option maxRecDepth 100000
set_option maxHeartbeats 64000000
namespace Go.Proofs.YtlnbkbfblhofbaaGreatDoor
open Go Go.RowKit
open Go.Proofs.Tryz
abbrev yWq:Pl:=(.op 0 (.op 1 (.op 2 (.op 3 (.op 4 (.op 5 (.op 6 (.op 7 (.op 8 (.op 9 (.ef 10 [] (.op 11 .nil))))))))))))
abbrev yAY:Pl:=(.op 0 (.op 1 (.op 2 .nil)))
section
variable {P:Program} {W:World} {n:Nat} {ops:Array Oper} {q:QQ} {E:Env} {H R:List SP} {k:KK} {d:Nat} {t u e T s:TypeId} {b off:Nat} {x y:Operand}
theorem yFl {xs:Array Operand} {ts:Array TypeId} {dd:Option Tmp} (h:KJ W n (.oper P (.call { callee:=.builtin .unsafeString,args:=xs,argTypes:=ts }) dd k) E H):KJ W n (.oper P (.call { callee:=.builtin .unsafeString,args:=xs,argTypes:=ts }) dd k) E H:=h
theorem yEa {xs:Array Operand} {ts:Array TypeId} {C:Value→Prop} (h:EK P W n E H (.call { callee:=.builtin .unsafeSliceData,args:=xs,argTypes:=ts }) C):EK P W n E H (.call { callee:=.builtin .unsafeSliceData,args:=xs,argTypes:=ts }) C:=h
theorem yN1 {f : FuncId} {fn : Func} {ts : Array TypeId} {v : Value} (hf : P.funcs[f]? = some fn) (h1 : (fn.name == "runtime.NumGoroutine") = false) (h2 : fn.body.isNone = true) (h3 : Extern.findNext fn = none) (h4 : Extern.find fn = some Extern.AbiNoEscape.same)
 (hx:Env.ev E x=some v) (hn:Nat.blt d n=true) (h:KJ W n k ((d,v)::E) H):KJ W n (.oper P (.call { callee:=.value (.func f),args:=#[x],argTypes:=ts }) (some d) k) E H:=
 yW2 (Ev.mk fun o ho a w p _=>by
  have e:a.eval (.func f)=.func (.func f) #[] #[]:=rfl
  have hc:=run_callFunc_extern hf h1 h2 h3 h4 #[v] w
  rw [Lib.run_noEscape] at hc
  simp [execOp,ho,resolve,e,Deferred.ofValue,invoke,p.ev hx,hc,Result.andThen]) hn h
theorem yN2 {cs:List Value} {z:Nat} (hx:Env.ev E x=some (.pointer (some ⟨b,off,none⟩))) [hs:UIs P s (.pointer u)] [hd:UIs P t .unsafePointer] [hz:SzIs P u (z+1)] (hsel:Sel (yAi b cs T) H R) (ho:off<cs.length):Ev P W n E H (.convert s t x) (.pointer (some ⟨b,off,none⟩)):=
 Ev.mk fun o hop a w p q=>by
  have hz:=hz.h
  cases hq:P.info? u with
  |none=>simp [hq] at hz
  |some j=>
   simp [hq] at hz
   have hb:=(q.blk hsel).2
   have hsh:w.shape? (⟨b,off,none⟩:Addr).block=some (T,cs.length):=by
    have:w.heap[b]? = some (.cells cs.toArray T (0,0)):=hb
    simp [World.shape?,this]
   have:=Lib.run_to_unsafe (P:=P) w ⟨b,off,none⟩ hs.h hd.h hq zO hsh ho
   simp [execOp,hop,p.ev hx,this,Result.andThen]
theorem yLo {cs:List Value} {z:Nat} (hx:Env.ev E x=some (.pointer (some ⟨b,off,none⟩))) [hs:UIs P s .unsafePointer] [hd:UIs P t (.pointer u)] [hz:SzIs P u z] (hsel:Sel (yAi b cs T) H R) (hl:liesAt P P.depth T (cs.length / P.cellsOf T) off u 1=true):Ev P W n E H (.convert s t x) (.pointer (some ⟨b,off,none⟩)):=
 Ev.mk fun o hop a w p q=>by
  have hz:=hz.h
  cases hq:P.info? u with
  |none=>simp [hq] at hz
  |some j=>
   have hb:=(q.blk hsel).2
   have hsh:w.shape? (⟨b,off,none⟩:Addr).block=some (T,cs.length):=by
    have:w.heap[b]? = some (.cells cs.toArray T (0,0)):=hb
    simp [World.shape?,this]
   have:=Lib.run_from_unsafe (P:=P) w ⟨b,off,none⟩ hs.h hd.h hq hsh hl
   simp [execOp,hop,p.ev hx,this,Result.andThen]
theorem yKj {a:Addr} {z:Nat} (hx:Env.ev E x=some (.pointer (some a))) (hy:Env.ev E y=some (.pointer (some a))) [hu:UIs P t (.pointer u)] [hz:SzIs P u z] {v:TypeId} (hg:∀ w,(eqGuard .neq t x y (.pointer (some a)) (.pointer (some a))).run P w=.ok () w):Ev P W n E H (.binOp .neq t x y v) (.bool false):=
 yDZ hx hy hg fun w=>by
  have hz:=hz.h
  cases hq:P.info? u with
  |none=>simp [hq] at hz
  |some j=>exact Lib.run_neq_ptr_same w a hu.h hq
theorem yLp (hx:Env.ev E x=some (.slice none off b)) {ts:Array TypeId}:Ev P W n E H (.call { callee:=.builtin .unsafeSliceData,args:=#[x],argTypes:=ts }) (.pointer none):=
 Ev.mk fun o ho a w p _=>by
  simp only [execOp,ho,resolve,invoke,builtin,Sem.run_bind,Sem.run_pure,Result.andThen_ok,List.map_toArray,List.map_cons,List.map_nil,p.ev hx,Lib.run_unsafeSliceData_nil]
theorem yMG {g i c sz:Nat} {xs:List Value} (hx:Env.ev E x=some (.slice (some ⟨g,0,none⟩) i c)) (hsel:Sel (yAP (.slice (some ⟨g,0,none⟩) i c) e sz i xs) H R) (h0:i≠0) {ts:Array TypeId}:Ev P W n E H (.call { callee:=.builtin .unsafeSliceData,args:=#[x],argTypes:=ts }) (zPp g):=
 Ev.mk fun o ho a w p q=>by
  have hc:c≠0:=by
   rcases (q.row hsel).2 with ⟨h,_⟩|⟨g',cap,cur,h,_,_,hle,_⟩
   ·cases h
   ·cases h;omega
  simp only [execOp,ho,resolve,invoke,builtin,Sem.run_bind,Sem.run_pure,Result.andThen_ok,List.map_toArray,List.map_cons,List.map_nil,p.ev hx,Lib.run_unsafeSliceData_row _ _ _ _ _ _ hc]
theorem yIr (hx:Env.ev E x=some (.pointer none)) (hy:Env.ev E y=some (.int .i64 0)) (hn:Nat.blt d n=true) (h:KJ W n k ((d,strV [])::E) H):KJ W n (.oper P (.call { callee:=.builtin .unsafeString,args:=#[x,y],argTypes:=#[t,u] }) (some d) k) E H:=
 yW2 (Ev.mk fun o ho a w p _=>by
  simp only [execOp,ho,resolve,invoke,builtin,Sem.run_bind,Sem.run_pure,Result.andThen_ok,List.map_toArray,List.map_cons,List.map_nil,p.ev hx,p.ev hy,Lib.run_unsafeString_none]
  rfl) hn h
theorem St.frozen {w:World} {g i c sz m:Nat} {xs:List Value} (s:St W H w) (p:Sel (yAP (.slice (some ⟨g,0,none⟩) i c) e sz i xs) H R):St W R (w.freeze ⟨g,0,none⟩ m):=by
 by_cases hm:m=0
 ·have:w.freeze ⟨g,0,none⟩ m=w:=by simp [World.freeze,hm]
  rw [this]
  exact (s.perm p.perm).mono fun h q=>(DropTo.there .refl).star h q
 refine St.act (A:=[yAP (.slice (some ⟨g,0,none⟩) i c) e sz i xs]) (B:=[]) (H:=R) (s.perm p.perm) (by simp [World.freeze,hm]) (by simp [World.freeze,hm]) (by simp [World.freeze,hm]) (by simp [World.freeze,hm]) ?_
 intro h1 ⟨h,_,_,le,_,a,_⟩ l
 refine ⟨fun _=>none,trivial,(fun _ _ (hx:none=some _)=>nomatch hx),(fun _ _ (hx:none=some _)=>nomatch hx),fun kk _ hk=>?_⟩
 have hne:kk≠g:=by
  rintro rfl
  rcases a.2 with ⟨h',_⟩|⟨g',cap,cur,h',hg,_⟩
  ·cases h'
  ·cases h'
   rw [le _ _ hg] at hk;cases hk
 simp [World.freeze,hm,Array.getElem?_modify,Ne.symm hne]
theorem yI5 {g c:Nat} {l:List UInt8} (hx:Env.ev E x=some (zPp g)) (hy:Env.ev E y=some (.int .i64 l.length)) [hu:UIs P t (.pointer e)] [SzIs P e 1] (hsel:Sel (yAP (.slice (some ⟨g,0,none⟩) l.length c) e 1 l.length (bvs l)) H R) (hc1:P.cellsOf e=1) (h0:l≠[]) (h63:l.length≤9223372036854775807)
 (hn:Nat.blt d n=true) (h:KJ W n k ((d,strV l)::E) R):KJ W n (.oper P (.call { callee:=.builtin .unsafeString,args:=#[x,y],argTypes:=#[t,u] }) (some d) k) E H:=by
 refine ⟨fun a w p s o ho hd=>?_⟩
 replace hsel:=hsel.app (dm a.defers)
 rcases (s.row hsel).2 with ⟨h',_⟩|⟨g',cap,cur,h',hge,hcell,hle,hmax,hsz,htk⟩
 ·cases h'
 cases h'
 rw [Nat.mul_one] at hsz htk
 have hsh:w.shape? g=some (e,c):=by simp [World.shape?,hcell,hsz]
 have hcells:∀ j z,l[j]? = some z→w.cell? ((⟨g,0,none⟩:Addr).add j)=some (.int .u8 z.toNat):=by
  intro j z hj
  have hjl:=(zLc.1 hj).1
  have h2:(bvs l)[j]? = some (bv z):=by simp [bvs,hj]
  rw [← htk,List.getElem?_take_of_lt hjl] at h2
  have e1:(⟨g,0,none⟩:Addr).add j=⟨g,j,none⟩:=by unfold Addr.add;by_cases hj0:j=0 <;> simp [hj0]
  rw [e1,Lib.cell_of_heap hcell]
  simpa [bv] using h2
 have hrun:=Lib.run_unsafeString_row (P:=P) w t u o.type e hu.h hc1 g c hsh l h0 hle h63 hcells
 show uponP P o a _ ((execOp a.eval o).run P w)
 have hr2:(execOp a.eval o).run P w=.ok (.value (strV l)) (w.freeze ⟨g,0,none⟩ l.length):=by
  simp only [execOp,ho,resolve,invoke,builtin,Sem.run_bind,Sem.run_pure,Result.andThen_ok,List.map_toArray,List.map_cons,List.map_nil,p.ev hx,p.ev hy,hrun]
 rw [hr2]
 have:=h.go _ _ (p.put (d:=some d) hn _) (s.frozen (m:=l.length) hsel)
 rw [← hd] at this
 exact this
end
section
variable {W:World} {b:Nat}
abbrev yQl (b:Nat) (q v:Value):SP:=yAi b [q,v] 208
theorem yLq (v:Value):CtU prog W 163 [zPp b] [yQl b (.pointer none) v] (.tuple #[]) [yQl b (zPp b) v]:=by
 refine Ct.enter func163 rfl ntmps163 zW (fun R=>?_)
 repeat' (first|refine yAb ?_;refine yN1 func195 zK zK zK zK rfl rfl ?_|(refine yEf ?_;first|refine yAa (yN2 rfl xS (by show (0:Nat)<2;omega)) ?_|refine yAa (yLo rfl xS zK) ?_)|refine yD3 ?_;refine yAa (yKj rfl rfl (fun _=>rfl)) ?_|refine xst ?_|refine xsa ?_;intro _|refine xsb ?_ ?_<;>intro _<;>try omega|refine xsc ?_|exact xdn ()|fail)
theorem yJZ (v:Value):CtU prog W 163 [zPp b] [yQl b (zPp b) v] (.tuple #[]) [yQl b (zPp b) v]:=by
 refine Ct.enter func163 rfl ntmps163 zW (fun R=>?_)
 repeat' (first|refine yD3 ?_;refine yAa (yKj rfl rfl (fun _=>rfl)) ?_|refine xst ?_|refine xsa ?_;intro _|refine xsb ?_ ?_<;>intro _<;>try omega|refine xsc ?_|exact xdn ()|fail)
theorem yJ0 (q:Value) (hq:q=.pointer none∨q=(zPp b)) (v:Value) (acc s:List UInt8) (h0:s≠[]) (hb:acc.length+s.length≤140737488355328) :
 Ct prog W 134 [zPp b,strV s] [yQl b q v,yAP v 5 1 acc.length (bvs acc)] (fun _:Nat × Nat=>.tuple #[.int .i64 s.length,.nilIface])
  (fun x=>[yQl b (zPp b) (.slice (some ⟨x.1,0,none⟩) (acc.length+s.length) x.2),yAP (.slice (some ⟨x.1,0,none⟩) (acc.length+s.length) x.2) 5 1 (acc.length+s.length) (bvs acc++bvs s)]):=by
 have c1:CtU prog W 163 [zPp b] [yQl b q v] (.tuple #[]) [yQl b (zPp b) v]:=by
  rcases hq with rfl|rfl
  ·exact yLq v
  ·exact yJZ v
 refine Ct.enter func134 rfl ntmps134 zW (fun R=>?_)
 repeat' (first|refine yAb ?_;refine xca c1 fun _=>?_|refine yAH ?_;refine yD6 rfl rfl xS (.inl h0) hb rfl (fun g c=>?_)|refine xst ?_|refine xsa ?_;intro _|refine xsb ?_ ?_<;>intro _<;>try omega|refine xsc ?_|fail)
 all_goals (exact xdn (_,_))
theorem yQm (q:Value):CtU prog W 135 [zPp b] [yQl b q (.slice none 0 0)] (strV []) []:=by
 refine Ct.enter func135 rfl ntmps135 zW (fun R=>?_)
 repeat' (first|refine yFl ?_;refine yIr rfl rfl rfl ?_|refine yEa ?_;refine yAa (yLp rfl) ?_|refine xst ?_|refine xsa ?_;intro _|refine xsb ?_ ?_<;>intro _<;>try omega|refine xsc ?_|refine xdr 1 yWq ?_|refine xsd ?_ ?_|exact Rech.nil|exact xdn ()|fail)
theorem ySB (q:Value) (g c:Nat) (acc:List UInt8) (h0:acc≠[]) (hb:acc.length≤9223372036854775807):CtU prog W 135 [zPp b] [yQl b q (.slice (some ⟨g,0,none⟩) acc.length c),yAP (.slice (some ⟨g,0,none⟩) acc.length c) 5 1 acc.length (bvs acc)] (strV acc) []:=by
 have hne:acc.length≠0:=by simpa using h0
 refine Ct.enter func135 rfl ntmps135 zW (fun R=>?_)
 repeat' (first|refine yFl ?_;refine yI5 rfl rfl xS zK h0 hb rfl ?_|refine yEa ?_;refine yAa (yMG rfl xS hne) ?_|refine xst ?_|refine xsa ?_;intro _|refine xsb ?_ ?_<;>intro _<;>try omega|refine xsc ?_|refine xdr 1 yWq ?_|refine xsd ?_ ?_|exact Rech.nil|exact xdn ()|fail)
end
def yCb (n:Int):Int:=234*min (max n 0) 65536
def yBR (b:Int):Int:=if b≤0 then 0 else (b-1) / 234+1
section
variable {W:World} {E:Nat→Addr} {p:Nat} {D:Dsk}
theorem yLr (n:Int):CtU prog W 65 [.int .i64 n] [] (.int .i64 (yCb n)) []:=by
 have hb:0≤min (max n 0) 65536∧min (max n 0) 65536≤65536:=zO
 refine Ct.enter func65 rfl ntmps65 zW (fun R=>?_)
 repeat' (first|refine yRP ?_;refine yAa (yAG (r:=yCb n) rfl rfl rfl (by unfold yCb;omega)) ?_|refine xst ?_|refine xsa ?_;intro _|refine xsb ?_ ?_<;>intro _<;>try omega|refine xsc ?_|exact xdn ()|fail)
theorem yMH (n:Int):CtU prog W 37 [.int .i64 n] [] (.int .i64 (yCb n)) []:=by
 have hb:0≤min (max n 0) 65536∧min (max n 0) 65536≤65536:=zO
 refine Ct.enter func37 rfl ntmps37 zW (fun R=>?_)
 repeat' (first|refine yRP ?_;refine yAa (yAG (r:=yCb n) rfl rfl rfl (by unfold yCb;omega)) ?_|refine xst ?_|refine xsa ?_;intro _|refine xsb ?_ ?_<;>intro _<;>try omega|refine xsc ?_|exact xdn ()|fail)
theorem yN3 (b:Int) (hb:b≤9223372036854775807):CtU prog W 133 [.int .i64 b] [] (.int .i64 (yBR b)) []:=by
 by_cases h:b≤0
 ·have q:decide (b≤0)=true:=zY h
  rw [show yBR b=0 from if_pos h]
  refine Ct.enter func133 rfl ntmps133 zW (fun R=>?_)
  repeat' (first|refine yMe ?_;refine yAa (yAS rfl rfl q) ?_|refine xst ?_|refine xsa ?_;intro _|refine xsb ?_ ?_<;>intro _<;>try omega|refine xsc ?_|exact xdn ()|fail)
 ·have q:decide (b≤0)=false:=zZ h
  rw [show yBR b=(b-1) / 234+1 from if_neg h]
  refine Ct.enter func133 rfl ntmps133 zW (fun R=>?_)
  repeat' (first|refine yMe ?_;refine yAa (yAS rfl rfl q) ?_|refine xst ?_|refine xsa ?_;intro _|refine xsb ?_ ?_<;>intro _<;>try omega|refine xsc ?_|exact xdn ()|fail)
end
def Dsk.mayB (D:Dsk) (at_ n:Int):Bool:=decide (0≤at_∧0≤n∧at_≤D.n∧n≤D.n-at_)
section
variable {W:World} {E:Nat→Addr} {p:Nat} {D:Dsk}
theorem yWr (at_ n:Int) (hn:D.n≤65536):CtU prog W 122 [zPp p,.int .i64 at_,.int .i64 n] [DiskP p D] (.bool (D.mayB at_ n)) [DiskP p D]:=by
 have c1:CtU prog W 25 [zPp p] [DiskP p D] (.int .i64 D.n) [DiskP p D]:=yBs
 by_cases h1:0≤at_
 ·by_cases h2:0≤n
  ·by_cases h3:at_≤D.n
   ·have hr:decide (n≤(D.n:Int)-at_)=D.mayB at_ n:=by unfold Dsk.mayB;simp [h1,h2,h3]
    have q1:decide (0≤at_)=true:=zY h1
    have q2:decide (0≤n)=true:=zY h2
    have q3:decide (at_≤(D.n:Int))=true:=zY h3
    refine Ct.enter func122 rfl ntmps122 zW (fun R=>?_)
    repeat' (first|refine yAb ?_;refine xca c1 fun _=>?_|(refine yMe ?_;first|refine yAa (yAS rfl rfl q3) ?_|refine yAa (yAS rfl rfl hr) ?_)|(refine yIR ?_;first|refine yAa (yAm rfl rfl q1) ?_|refine yAa (yAm rfl rfl q2) ?_)|refine xst ?_|refine xsa ?_;intro _|refine xsb ?_ ?_<;>intro _<;>try omega|refine xsc ?_|exact xdn ()|fail)
   ·have hr:D.mayB at_ n=false:=by unfold Dsk.mayB;simp [h3]
    have q1:decide (0≤at_)=true:=zY h1
    have q2:decide (0≤n)=true:=zY h2
    have q3:decide (at_≤(D.n:Int))=false:=zZ h3
    rw [hr]
    refine Ct.enter func122 rfl ntmps122 zW (fun R=>?_)
    repeat' (first|refine yAb ?_;refine xca c1 fun _=>?_|refine yMe ?_;refine yAa (yAS rfl rfl q3) ?_|(refine yIR ?_;first|refine yAa (yAm rfl rfl q1) ?_|refine yAa (yAm rfl rfl q2) ?_)|refine xst ?_|refine xsa ?_;intro _|refine xsb ?_ ?_<;>intro _<;>try omega|refine xsc ?_|exact xdn ()|fail)
  ·have hr:D.mayB at_ n=false:=by unfold Dsk.mayB;simp [h2]
   have q1:decide (0≤at_)=true:=zY h1
   have q2:decide (0≤n)=false:=zZ h2
   rw [hr]
   refine Ct.enter func122 rfl ntmps122 zW (fun R=>?_)
   repeat' (first|(refine yIR ?_;first|refine yAa (yAm rfl rfl q1) ?_|refine yAa (yAm rfl rfl q2) ?_)|refine xst ?_|refine xsa ?_;intro _|refine xsb ?_ ?_<;>intro _<;>try omega|refine xsc ?_|exact xdn ()|fail)
 ·have hr:D.mayB at_ n=false:=by unfold Dsk.mayB;simp [h1]
  have q1:decide (0≤at_)=false:=zZ h1
  rw [hr]
  refine Ct.enter func122 rfl ntmps122 zW (fun R=>?_)
  repeat' (first|refine yIR ?_;refine yAa (yAm rfl rfl q1) ?_|refine xst ?_|refine xsa ?_;intro _|refine xsb ?_ ?_<;>intro _<;>try omega|refine xsc ?_|exact xdn ()|fail)
end
section
variable {P:Program} {W:World} {n:Nat} {E:Env} {H R:List SP} {k:KK} {t u:TypeId} {x y z:Operand}
theorem yB1 {kd:IntKind} {i j r:Int} {ts:Array TypeId} (hx:Env.ev E x=some (.int kd i)) (hy:Env.ev E y=some (.int kd j)) (h:min i j=r):Ev P W n E H (.call { callee:=.builtin .min,args:=#[x,y],argTypes:=ts }) (.int kd r):=by subst h;exact yRH hx hy
theorem yBW {l r:List UInt8} {j:Int} {kj:IntKind} (hx:Env.ev E x=some (strV l)) (hz:Env.ev E z=some (.int kj j)) [hu:UIs P t .string] (hb:0≤j∧j≤l.length) (h:l.take j.toNat=r):Ev P W n E H (.slice t x none (some z) none) (strV r):=by subst h;exact yGA hx hz hb
theorem yAT {l r:List UInt8} {i:Int} {ki:IntKind} (hx:Env.ev E x=some (strV l)) (hy:Env.ev E y=some (.int ki i)) [hu:UIs P t .string] (hb:0≤i∧i≤l.length) (h:l.drop i.toNat=r):Ev P W n E H (.slice t x (some y) none none) (strV r):=by subst h;exact yBS hx hy hb
theorem ySC {e sz:Nat}:∀ g,yAA H g→yAA (yAP (.slice none 0 0) e sz 0 []::H) g:=
 fun g q=>⟨fun _=>none,g,(fun _ _ q=>by cases q),(fun _ _ q=>by cases q),.rfl,⟨by simp,.inl ⟨rfl,rfl⟩⟩,q⟩
theorem KJ.row0 {e sz:Nat} (h:KJ W n k E (yAP (.slice none 0 0) e sz 0 []::H)):KJ W n k E H:=⟨fun a w q s=>h.go a w q (s.mono ySC)⟩
end
def yC0 (at_ stamp:Int):Nat→Dsk→Int→List UInt8→Nat × Dsk
 |0,D,_,_=>(D.flushE,D.flushD)
 |f+1,D,i,v=>if v=[] then (D.flushE,D.flushD) else if D.writeE (at_+i) (yAx stamp (v.take 234))≠0 then (D.writeE (at_+i) (yAx stamp (v.take 234)),D.writeD (at_+i) (yAx stamp (v.take 234)))
  else yC0 at_ stamp f (D.writeD (at_+i) (yAx stamp (v.take 234))) (i+1) (v.drop 234)
def yA7 (D:Dsk) (at_ n stamp:Int) (v:List UInt8):Nat × Dsk:=
 if D.mayB at_ n=false then (6,D) else if stamp=0 then (6,D) else if yCb n<(v.length:Int) then (3,D) else if D.off then (12,D) else yC0 at_ stamp v.length D 0 v
theorem yIv (at_ stamp:Int) (f:Nat) (D:Dsk) (i:Int):yC0 at_ stamp f D i []=(D.flushE,D.flushD):=by cases f <;> simp [yC0]
section
variable {W:World} {E:Nat→Addr} {p:Nat} {D:Dsk}
theorem yI6 (hE:ErrsOn L8 W E) (hN:NibAt W) (hn:D.n≤65536) (hul:D.und.length+65536<1073741823) (at_ n stamp:Int) (v:List UInt8) :
 CtU prog W 69 [zPp p,.int .i64 at_,.int .i64 n,.int .u64 stamp,strV v] [DiskP p D] (yAr E (yA7 D at_ n stamp v).1) [DiskP p (yA7 D at_ n stamp v).2]:=by
 have e3:W.cell? ⟨9,0,none⟩=some (yAr E 3):=hE.at_ 3 zX
 have e6:W.cell? ⟨5,0,none⟩=some (yAr E 6):=hE.at_ 6 zX
 have e12:W.cell? ⟨2,0,none⟩=some (yAr E 12):=hE.at_ 12 zX
 have c1:=yWr (W:=W) (p:=p) at_ n hn
 by_cases h1:D.mayB at_ n=false
 ·rw [show yA7 D at_ n stamp v=(6,D) from if_pos h1]
  rw [h1] at c1
  refine Ct.enter func69 rfl ntmps69 zW (fun R=>?_)
  repeat' (first|refine yAb ?_;refine xca c1 fun _=>?_|refine yAj ?_;refine yAa (yAn rfl e6) ?_|refine xst ?_|refine xsa ?_;intro _|refine xsb ?_ ?_<;>intro _<;>try omega|refine xsc ?_|exact xdn ()|fail)
 have h1':D.mayB at_ n=true:=by simpa using h1
 rw [h1'] at c1
 by_cases h2:stamp=0
 ·rw [show yA7 D at_ n stamp v=(6,D) from (if_neg h1).trans (if_pos h2)]
  refine Ct.enter func69 rfl ntmps69 zW (fun R=>?_)
  repeat' (first|refine yAb ?_;refine xca c1 fun _=>?_|refine yAj ?_;refine yAa (yAn rfl e6) ?_|refine yDe ?_;refine yAa (yDf rfl rfl h2) ?_|refine xst ?_|refine xsa ?_;intro _|refine xsb ?_ ?_<;>intro _<;>try omega|refine xsc ?_|exact xdn ()|fail)
 have c2:=yLr (W:=W) n
 by_cases h3:yCb n<(v.length:Int)
 ·rw [show yA7 D at_ n stamp v=(3,D) from (if_neg h1).trans ((if_neg h2).trans (if_pos h3))]
  have q3:decide (yCb n<(v.length:Int))=true:=zY h3
  refine Ct.enter func69 rfl ntmps69 zW (fun R=>?_)
  repeat' (first|(refine yAb ?_;first|refine xca c1 fun _=>?_|refine xca c2 fun _=>?_)|refine yAj ?_;refine yAa (yAn rfl e3) ?_|refine yDe ?_;refine yAa (yBl rfl rfl h2) ?_|refine yF5 ?_;refine yAa (yAe rfl rfl q3) ?_|refine xst ?_|refine xsa ?_;intro _|refine xsb ?_ ?_<;>intro _<;>try omega|refine xsc ?_|exact xdn ()|fail)
 have q3:decide (yCb n<(v.length:Int))=false:=zZ h3
 have c3:CtU prog W 26 [zPp p] [DiskP p D] (.bool D.off) [DiskP p D]:=yD5
 by_cases h4:D.off=true
 ·rw [show yA7 D at_ n stamp v=(12,D) from (if_neg h1).trans ((if_neg h2).trans ((if_neg h3).trans (if_pos h4)))]
  rw [h4] at c3
  refine Ct.enter func69 rfl ntmps69 zW (fun R=>?_)
  repeat' (first|(refine yAb ?_;first|refine xca c1 fun _=>?_|refine xca c2 fun _=>?_|refine xca c3 fun _=>?_)|refine yAj ?_;refine yAa (yAn rfl e12) ?_|refine yDe ?_;refine yAa (yBl rfl rfl h2) ?_|refine yF5 ?_;refine yAa (yAe rfl rfl q3) ?_|refine xst ?_|refine xsa ?_;intro _|refine xsb ?_ ?_<;>intro _<;>try omega|refine xsc ?_|exact xdn ()|fail)
 have h4':D.off=false:=by simpa using h4
 rw [h4'] at c3
 have hW:yA7 D at_ n stamp v=yC0 at_ stamp v.length D 0 v:=(if_neg h1).trans ((if_neg h2).trans ((if_neg h3).trans (if_neg h4)))
 rw [hW]
 obtain ⟨res,hres⟩:∃ res,res=yC0 at_ stamp v.length D 0 v:=⟨_,rfl⟩
 rw [← hres]
 have hat:0≤at_∧at_≤65536:=by
  unfold Dsk.mayB at h1'
  have:=of_decide_eq_true h1'
  omega
 have hvl:v.length≤234*65536:=by unfold yCb at h3;omega
 refine Ct.enter func69 rfl ntmps69 zW (fun R=>?_)
 repeat' (first|(refine yAb ?_;first|refine xca c1 fun _=>?_|refine xca c2 fun _=>?_|refine xca c3 fun _=>?_)|refine yDe ?_;refine yAa (yBl rfl rfl h2) ?_|refine yF5 ?_;refine yAa (yAe rfl rfl q3) ?_|refine xst ?_|refine xsa ?_;intro _|refine xsb ?_ ?_<;>intro _<;>try omega|refine xsc ?_|fail)
 refine yAz (fun i:{s:Nat × Nat × Dsk × List UInt8//yC0 at_ stamp s.2.1 s.2.2.1 s.1 s.2.2.2=res∧s.2.2.1.und.length≤D.und.length+s.1∧(s.2.2.2≠[]→s.2.2.2.length+234*s.1=v.length)∧s.2.2.2.length≤234*s.2.1∧s.1≤65536}=>
  [(0,zPp p),(1,.int .i64 at_),(3,.int .u64 stamp),(4,strV i.1.2.2.2),(11,.int .i64 (i.1.1:Nat))]) (fun i=>[DiskP p i.1.2.2.1]++R) (fun i=>i.1.2.1) ⟨(0,v.length,D,v),hres.symm,by simp,fun _=>by simp,by dsimp only;omega,by dsimp only;omega⟩ xB (fun _ q=>q) (fun ⟨(k,f,Dk,rest),hr,hu,hlen,hf,hk⟩=>?_)
 dsimp only at hr hu hlen hf hk ⊢
 by_cases hr0:rest=[]
 ·subst hr0
  rw [yIv] at hr
  have hD2:res.2=Dk.flushD:=by rw [← hr]
  have hE2:yAr E res.1=yAr E Dk.flushE:=by rw [← hr]
  rw [hD2,hE2]
  have c4:CtU prog W 106 [zPp p] [DiskP p Dk] (yAr E Dk.flushE) [DiskP p Dk.flushD]:=yK9 hE zO
  repeat' (first|refine yAb ?_;refine xca c4 fun _=>?_|refine yD3 ?_;refine yAa (yEn rfl rfl rfl) ?_|refine xst ?_|refine xsa ?_;intro _|refine xsb ?_ ?_<;>intro _<;>try omega|refine xsc ?_|exact xdn ()|fail)
 ·obtain ⟨f',rfl⟩:∃ f',f=f'+1:=⟨f-1,by have:=zLv.2 hr0;omega⟩
  have hlen:=hlen hr0
  have hpos:=zLv.2 hr0
  have hunf:yC0 at_ stamp (f'+1) Dk k rest=if Dk.writeE (at_+k) (yAx stamp (rest.take 234))≠0 then (Dk.writeE (at_+k) (yAx stamp (rest.take 234)),Dk.writeD (at_+k) (yAx stamp (rest.take 234)))
   else yC0 at_ stamp f' (Dk.writeD (at_+k) (yAx stamp (rest.take 234))) (k+1) (rest.drop 234):=by
   show (if rest=[] then _ else _)=_
   rw [if_neg hr0]
  rw [hunf] at hr
  clear hunf
  obtain ⟨pc,hpc⟩:∃ pc,pc=rest.take 234:=⟨_,rfl⟩
  obtain ⟨r2,hr2⟩:∃ r2,r2=rest.drop 234:=⟨_,rfl⟩
  have hpl:pc.length=min rest.length 234:=by rw [hpc,zLg];omega
  have hm1:min (rest.length:Int) 234=(pc.length:Nat):=zO
  have hs1:rest.take ((pc.length:Nat):Int).toNat=pc:=by rw [zLe,hpl,hpc];exact List.take_eq_take_iff.2 zO
  have hs2:rest.drop ((pc.length:Nat):Int).toNat=r2:=by
   rw [zLe,hpl,hr2]
   by_cases hh:rest.length≤234
   ·rw [zLl zO,zLl zO]
   ·rw [show min rest.length 234=234 by omega]
  have hr2l:r2.length=rest.length-234:=by rw [hr2,zLf]
  rw [← hpc,← hr2] at hr
  have c5:=yLh hN stamp pc h2 zO
  have c6:CtU prog W 105 [zPp p,.int .i64 (at_+(k:Nat)),strV (yAx stamp pc)] [DiskP p Dk] (yAr E (Dk.writeE (at_+k) (yAx stamp pc))) [DiskP p (Dk.writeD (at_+k) (yAx stamp pc))]:=yK8 hE _ _ zO
  have hu1:=yEp Dk (at_+k) (yAx stamp pc)
  obtain ⟨D1,hD1⟩:∃ D1,D1=Dk.writeD (at_+k) (yAx stamp pc):=⟨_,rfl⟩
  obtain ⟨e,he⟩:∃ e,e=Dk.writeE (at_+k) (yAx stamp pc):=⟨_,rfl⟩
  rw [← hD1] at c6 hr hu1
  rw [← he] at c6 hr
  clear hpc hr2 hD1 he
  by_cases hz:e=0
  ·subst hz
   rw [if_neg zW] at hr
   have c6':CtU prog W 105 [zPp p,.int .i64 (at_+(k:Nat)),strV (yAx stamp pc)] [DiskP p Dk] .nilIface [DiskP p D1]:=c6
   repeat' (first|(refine yAb ?_;first|refine xca c6' fun _=>?_|refine xca c5 fun _=>?_)|(refine yAQ ?_;first|refine yAa (yAT rfl rfl zO hs2) ?_|refine yAa (yBW rfl rfl zO hs1) ?_)|refine yMc ?_;refine yAa (yB1 rfl rfl hm1) ?_|refine yD3 ?_;refine yAa (yEq rfl rfl hr0) ?_|refine xst ?_|refine xsa ?_;intro _|refine xsb ?_ ?_<;>intro _<;>try omega|refine xsc ?_|fail)
   exact yAp ⟨(k+1,f',D1,r2),hr,by dsimp only;omega,fun hn2=>by dsimp only;have:=zLv.2 hn2;dsimp only at this;omega,by dsimp only;omega,by dsimp only;omega⟩ (by show f'<f'+1;omega) xB (xN)
  ·rw [if_pos hz] at hr
   have hD2:res.2=D1:=by rw [← hr]
   have hE2:yAr E res.1=yAr E e:=by rw [← hr]
   rw [hD2,hE2]
   obtain ⟨ea,hea⟩:=yCW (E:=E) hz
   rw [hea] at c6 ⊢
   repeat' (first|(refine yAb ?_;first|refine xca c6 fun _=>?_|refine xca c5 fun _=>?_)|(refine yAQ ?_;first|refine yAa (yAT rfl rfl zO hs2) ?_|refine yAa (yBW rfl rfl zO hs1) ?_)|refine yMc ?_;refine yAa (yB1 rfl rfl hm1) ?_|refine yD3 ?_;refine yAa (yEq rfl rfl hr0) ?_|refine xst ?_|refine xsa ?_;intro _|refine xsb ?_ ?_<;>intro _<;>try omega|refine xsc ?_|exact xdn ()|fail)
def yLs (D:Dsk) (at_ stamp bytes:Int):Nat→Nat→List UInt8→List UInt8 × Nat
 |0,_,acc=>(acc,0)
 |f+1,i,acc=>if D.readE (at_+i)≠0 then ([],D.readE (at_+i)) else
  match yBU stamp (D.readS (at_+i)) with
  |none=>([],15)
  |some pc=>if (pc.length:Int)≠min (bytes-i*234) 234 then ([],15) else yLs D at_ stamp bytes f (i+1) (acc++pc)
def yBH (D:Dsk) (at_ n stamp bytes:Int):List UInt8 × Nat:=
 if D.mayB at_ n=false then ([],6) else if stamp=0 then ([],6) else if bytes<0 then ([],6) else if yCb n<bytes then ([],3) else if D.off then ([],12) else yLs D at_ stamp bytes (yBR bytes).toNat 0 []
theorem yFN (hE:ErrsOn L8 W E) (e15:W.cell? ⟨17,0,none⟩=some (yAr E 15)) (hN:NibAt W) (hn:D.n≤65536) (at_ n stamp bytes:Int) :
 CtU prog W 90 [zPp p,.int .i64 at_,.int .i64 n,.int .u64 stamp,.int .i64 bytes] [DiskP p D] (.tuple #[strV (yBH D at_ n stamp bytes).1,yAr E (yBH D at_ n stamp bytes).2]) [DiskP p D]:=by
 have e3:W.cell? ⟨9,0,none⟩=some (yAr E 3):=hE.at_ 3 zX
 have e6:W.cell? ⟨5,0,none⟩=some (yAr E 6):=hE.at_ 6 zX
 have e12:W.cell? ⟨2,0,none⟩=some (yAr E 12):=hE.at_ 12 zX
 have c1:=yWr (W:=W) (p:=p) at_ n hn
 by_cases h1:D.mayB at_ n=false
 ·rw [show yBH D at_ n stamp bytes=([],6) from if_pos h1]
  rw [h1] at c1
  refine Ct.enter func90 rfl ntmps90 zW (fun R=>?_)
  repeat' (first|refine yAb ?_;refine xca c1 fun _=>?_|refine yAj ?_;refine yAa (yAn rfl e6) ?_|refine xst ?_|refine xsa ?_;intro _|refine xsb ?_ ?_<;>intro _<;>try omega|refine xsc ?_|refine xdr 2 yAY ?_|refine xdr 4 yAY ?_|refine xdr 6 yAY ?_|refine xdr 16 yAY ?_|refine xsd ?_ ?_|exact Rech.nil|exact xdn ()|fail)
 have h1':D.mayB at_ n=true:=by simpa using h1
 rw [h1'] at c1
 by_cases h2:stamp=0
 ·rw [show yBH D at_ n stamp bytes=([],6) from (if_neg h1).trans (if_pos h2)]
  refine Ct.enter func90 rfl ntmps90 zW (fun R=>?_)
  repeat' (first|refine yAb ?_;refine xca c1 fun _=>?_|refine yAj ?_;refine yAa (yAn rfl e6) ?_|refine yDe ?_;refine yAa (yDf rfl rfl h2) ?_|refine xst ?_|refine xsa ?_;intro _|refine xsb ?_ ?_<;>intro _<;>try omega|refine xsc ?_|refine xdr 2 yAY ?_|refine xdr 4 yAY ?_|refine xdr 6 yAY ?_|refine xdr 16 yAY ?_|refine xsd ?_ ?_|exact Rech.nil|exact xdn ()|fail)
 by_cases hb:bytes<0
 ·rw [show yBH D at_ n stamp bytes=([],6) from (if_neg h1).trans ((if_neg h2).trans (if_pos hb))]
  have qb:decide (bytes<0)=true:=zY hb
  refine Ct.enter func90 rfl ntmps90 zW (fun R=>?_)
  repeat' (first|refine yAb ?_;refine xca c1 fun _=>?_|refine yAj ?_;refine yAa (yAn rfl e6) ?_|refine yDe ?_;refine yAa (yBl rfl rfl h2) ?_|refine yFg ?_;refine yAa (yAc rfl rfl qb) ?_|refine xst ?_|refine xsa ?_;intro _|refine xsb ?_ ?_<;>intro _<;>try omega|refine xsc ?_|refine xdr 2 yAY ?_|refine xdr 4 yAY ?_|refine xdr 6 yAY ?_|refine xdr 16 yAY ?_|refine xsd ?_ ?_|exact Rech.nil|exact xdn ()|fail)
 have qb:decide (bytes<0)=false:=zZ hb
 have c2:=yLr (W:=W) n
 by_cases h3:yCb n<bytes
 ·rw [show yBH D at_ n stamp bytes=([],3) from (if_neg h1).trans ((if_neg h2).trans ((if_neg hb).trans (if_pos h3)))]
  have q3:decide (yCb n<bytes)=true:=zY h3
  refine Ct.enter func90 rfl ntmps90 zW (fun R=>?_)
  repeat' (first|(refine yAb ?_;first|refine xca c1 fun _=>?_|refine xca c2 fun _=>?_)|refine yAj ?_;refine yAa (yAn rfl e3) ?_|refine yDe ?_;refine yAa (yBl rfl rfl h2) ?_|refine yFg ?_;refine yAa (yAc rfl rfl qb) ?_|refine yF5 ?_;refine yAa (yAe rfl rfl q3) ?_|refine xst ?_|refine xsa ?_;intro _|refine xsb ?_ ?_<;>intro _<;>try omega|refine xsc ?_|refine xdr 2 yAY ?_|refine xdr 4 yAY ?_|refine xdr 6 yAY ?_|refine xdr 16 yAY ?_|refine xsd ?_ ?_|exact Rech.nil|exact xdn ()|fail)
 have q3:decide (yCb n<bytes)=false:=zZ h3
 have c3:CtU prog W 26 [zPp p] [DiskP p D] (.bool D.off) [DiskP p D]:=yD5
 by_cases h4:D.off=true
 ·rw [show yBH D at_ n stamp bytes=([],12) from (if_neg h1).trans ((if_neg h2).trans ((if_neg hb).trans ((if_neg h3).trans (if_pos h4))))]
  rw [h4] at c3
  refine Ct.enter func90 rfl ntmps90 zW (fun R=>?_)
  repeat' (first|(refine yAb ?_;first|refine xca c1 fun _=>?_|refine xca c2 fun _=>?_|refine xca c3 fun _=>?_)|refine yAj ?_;refine yAa (yAn rfl e12) ?_|refine yDe ?_;refine yAa (yBl rfl rfl h2) ?_|refine yFg ?_;refine yAa (yAc rfl rfl qb) ?_|refine yF5 ?_;refine yAa (yAe rfl rfl q3) ?_|refine xst ?_|refine xsa ?_;intro _|refine xsb ?_ ?_<;>intro _<;>try omega|refine xsc ?_|refine xdr 2 yAY ?_|refine xdr 4 yAY ?_|refine xdr 6 yAY ?_|refine xdr 16 yAY ?_|refine xsd ?_ ?_|exact Rech.nil|exact xdn ()|fail)
 have h4':D.off=false:=by simpa using h4
 rw [h4'] at c3
 obtain ⟨S,hS⟩:∃ S,S=(yBR bytes).toNat:=⟨_,rfl⟩
 have hR:yBH D at_ n stamp bytes=yLs D at_ stamp bytes S 0 []:=by rw [hS];exact (if_neg h1).trans ((if_neg h2).trans ((if_neg hb).trans ((if_neg h3).trans (if_neg h4))))
 rw [hR]
 have hbr:bytes≤234*65536:=by unfold yCb at h3;omega
 have hSI:yBR bytes=(S:Int)∧S≤65536:=by
  unfold yBR at hS ⊢
  split at hS <;> rename_i hh
  ·rw [if_pos hh];omega
  ·rw [if_neg hh];omega
 have c5:CtU prog W 133 [.int .i64 bytes] [] (.int .i64 (S:Nat)) []:=(yN3 bytes zO).val fun _=>by rw [hSI.1]
 obtain ⟨res,hres⟩:∃ res,res=yLs D at_ stamp bytes S 0 []:=⟨_,rfl⟩
 rw [← hres]
 have hat:0≤at_∧at_≤65536:=by
  unfold Dsk.mayB at h1'
  have:=of_decide_eq_true h1'
  omega
 clear hR hS
 refine Ct.enter func90 rfl ntmps90 zW (fun R=>?_)
 repeat' (first|refine yAs ?_;refine yAq rfl (fun gb=>KJ.row0 (e:=5) (sz:=1) ?_)|(refine yAb ?_;first|refine xca c1 fun _=>?_|refine xca c2 fun _=>?_|refine xca c3 fun _=>?_|refine xca c5 fun _=>?_)|refine yDe ?_;refine yAa (yBl rfl rfl h2) ?_|refine yFg ?_;refine yAa (yAc rfl rfl qb) ?_|refine yF5 ?_;refine yAa (yAe rfl rfl q3) ?_|refine xst ?_|refine xsa ?_;intro _|refine xsb ?_ ?_<;>intro _<;>try omega|refine xsc ?_|refine xdr 2 yAY ?_|refine xdr 4 yAY ?_|refine xdr 6 yAY ?_|refine xdr 16 yAY ?_|refine xsd ?_ ?_|exact Rech.nil|fail)
 rename_i gb _
 refine yAz (fun i:{s:Nat × List UInt8 × Value × Value//yLs D at_ stamp bytes (S-s.1) s.1 s.2.1=res∧s.1≤S∧s.2.1.length≤234*s.1∧((s.2.1=[]∧s.2.2.1=.pointer none∧s.2.2.2=.slice none 0 0)∨(s.2.1≠[]∧s.2.2.1=(zPp gb)∧∃ g c,s.2.2.2=.slice (some ⟨g,0,none⟩) s.2.1.length c))}=>
  [(0,zPp p),(1,.int .i64 at_),(3,.int .u64 stamp),(4,.int .i64 bytes),(12,zPp gb),(41,.int .i64 (S:Nat)),(42,.int .i64 (i.1.1:Nat))])
  (fun i=>[DiskP p D,yQl gb i.1.2.2.1 i.1.2.2.2,yAP i.1.2.2.2 5 1 i.1.2.1.length (bvs i.1.2.1)]++R) (fun i=>S-i.1.1) ⟨(0,[],.pointer none,.slice none 0 0),hres.symm,by dsimp only;omega,by simp,.inl ⟨rfl,rfl,rfl⟩⟩ xB (xN) (fun ⟨(i,acc,q,v),hr,hi,hal,hqv⟩=>?_)
 dsimp only at hr hi hal hqv ⊢
 by_cases hlt:i<S
 ·have ql:decide ((i:Int)<(S:Int))=true:=zY zO
  obtain ⟨f,hf⟩:∃ f,S-i=f+1:=⟨S-i-1,zO⟩
  have hf2:S-(i+1)=f:=zO
  rw [hf] at hr
  have hunf:yLs D at_ stamp bytes (f+1) i acc=if D.readE (at_+i)≠0 then ([],D.readE (at_+i)) else
   match yBU stamp (D.readS (at_+i)) with
   |none=>([],15)
   |some pc=>if (pc.length:Int)≠min (bytes-i*234) 234 then ([],15) else yLs D at_ stamp bytes f (i+1) (acc++pc):=rfl
  rw [hunf] at hr
  clear hunf
  have c6:=yK7 (W:=W) (p:=p) (D:=D) hE (at_+(i:Nat))
  have c7:=yNS (W:=W) hN stamp (D.readS (at_+(i:Nat)))
  obtain ⟨raw,hraw⟩:∃ raw,raw=D.readS (at_+(i:Nat)):=⟨_,rfl⟩
  obtain ⟨e,he⟩:∃ e,e=D.readE (at_+(i:Nat)):=⟨_,rfl⟩
  rw [← hraw] at c6 c7 hr
  rw [← he] at c6 hr
  clear hraw he
  by_cases hz:e=0
  rotate_left
  ·rw [if_pos hz] at hr
   have hE2:yAr E res.2=yAr E e:=by rw [← hr]
   have hS2:strV res.1=strV []:=by rw [← hr]
   rw [hE2,hS2]
   obtain ⟨ea,hea⟩:=yCW (E:=E) hz
   rw [hea] at c6 ⊢
   repeat' (first|refine yAb ?_;refine xca c6 fun _=>?_|refine yFg ?_;refine yAa (yAc rfl rfl ql) ?_|refine xst ?_|refine xsa ?_;intro _|refine xsb ?_ ?_<;>intro _<;>try omega|refine xsc ?_|refine xdr 2 yAY ?_|refine xdr 4 yAY ?_|refine xdr 6 yAY ?_|refine xdr 16 yAY ?_|refine xsd ?_ ?_|exact Rech.nil|exact xdn ()|fail)
  subst hz
  rw [if_neg zW] at hr
  have c6':CtU prog W 57 [zPp p,.int .i64 (at_+(i:Nat))] [DiskP p D] (.tuple #[strV raw,.nilIface]) [DiskP p D]:=c6
  obtain ⟨o,ho⟩:∃ o,o=yBU stamp raw:=⟨_,rfl⟩
  rw [← ho] at c7 hr
  clear ho
  cases o with
  |none=>
   have hE2:yAr E res.2=yAr E 15:=by rw [← hr]
   have hS2:strV res.1=strV []:=by rw [← hr]
   rw [hE2,hS2]
   have c7':CtU prog W 119 [.int .u64 stamp,strV raw] [] (.tuple #[strV [],.bool false]) []:=c7
   repeat' (first|(refine yAb ?_;first|refine xca c6' fun _=>?_|refine xca c7' fun _=>?_)|refine yAj ?_;refine yAa (yAn rfl e15) ?_|refine yFg ?_;refine yAa (yAc rfl rfl ql) ?_|refine xst ?_|refine xsa ?_;intro _|refine xsb ?_ ?_<;>intro _<;>try omega|refine xsc ?_|refine xdr 2 yAY ?_|refine xdr 4 yAY ?_|refine xdr 6 yAY ?_|refine xdr 16 yAY ?_|refine xsd ?_ ?_|exact Rech.nil|exact xdn ()|fail)
  |some pc=>
   dsimp only at hr
   have c7':CtU prog W 119 [.int .u64 stamp,strV raw] [] (.tuple #[strV pc,.bool true]) []:=c7
   obtain ⟨m,hm⟩:∃ m,m=min (bytes-(i:Int)*234) 234:=⟨_,rfl⟩
   rw [← hm] at hr
   by_cases hl:(pc.length:Int)=m
   rotate_left
   ·rw [if_pos hl] at hr
    have hE2:yAr E res.2=yAr E 15:=by rw [← hr]
    have hS2:strV res.1=strV []:=by rw [← hr]
    rw [hE2,hS2]
    repeat' (first|(refine yAb ?_;first|refine xca c6' fun _=>?_|refine xca c7' fun _=>?_)|refine yAj ?_;refine yAa (yAn rfl e15) ?_|refine yMc ?_;refine yAa (yB1 rfl rfl hm.symm) ?_|refine yD3 ?_;refine yAa (yA0 rfl rfl hl) ?_|refine yFg ?_;refine yAa (yAc rfl rfl ql) ?_|refine xst ?_|refine xsa ?_;intro _|refine xsb ?_ ?_<;>intro _<;>try omega|refine xsc ?_|refine xdr 2 yAY ?_|refine xdr 4 yAY ?_|refine xdr 6 yAY ?_|refine xdr 16 yAY ?_|refine xsd ?_ ?_|exact Rech.nil|exact xdn ()|fail)
   rw [if_neg (by simpa using hl)] at hr
   have hS1:234*(i:Int)<bytes:=by
    have h:=hSI.1
    unfold yBR at h
    split at h <;> omega
   have hpc:pc≠[]:=by
    rintro rfl
    simp at hl
    omega
   have hap:acc++pc≠[]:=by simp [hpc]
   have c8:Ct prog W 134 [zPp gb,strV pc] [yQl gb q v,yAP v 5 1 acc.length (bvs acc)] (fun _:Nat × Nat=>.tuple #[.int .i64 pc.length,.nilIface])
    (fun x=>[yQl gb (zPp gb) (.slice (some ⟨x.1,0,none⟩) (acc.length+pc.length) x.2),yAP (.slice (some ⟨x.1,0,none⟩) (acc.length+pc.length) x.2) 5 1 (acc.length+pc.length) (bvs acc++bvs pc)]):=
    yJ0 q (by rcases hqv with ⟨_,h,_⟩|⟨_,h,_⟩ <;> simp [h]) v acc pc hpc zO
   repeat' (first|(refine yAb ?_;first|refine xca c6' fun _=>?_|refine xca c7' fun _=>?_|refine xca c8 fun x=>?_)|refine yMc ?_;refine yAa (yB1 rfl rfl hm.symm) ?_|refine yD3 ?_;refine yAa (yAv rfl rfl hl) ?_|refine yFg ?_;refine yAa (yAc rfl rfl ql) ?_|refine xst ?_|refine xsa ?_;intro _|refine xsb ?_ ?_<;>intro _<;>try omega|refine xsc ?_|refine xdr 2 yAY ?_|refine xdr 4 yAY ?_|refine xdr 6 yAY ?_|refine xdr 16 yAY ?_|refine xsd ?_ ?_|exact Rech.nil|fail)
   rename_i x
   refine yAp ⟨(i+1,acc++pc,zPp gb,.slice (some ⟨x.1,0,none⟩) (acc.length+pc.length) x.2),by dsimp only;rw [hf2];exact hr,by dsimp only;omega,by dsimp only;rw [zLa];omega,.inr ⟨hap,rfl,x.1,x.2,by rw [zLa]⟩⟩ (by show S-(i+1)<S-i;omega) xB ?_
   have ebv:bvs acc++bvs pc=bvs (acc++pc):=by simp [bvs]
   have eln:acc.length+pc.length=(acc++pc).length:=zW
   dsimp only
   rw [ebv,eln]
   exact (xN)
 ·have hiS:i=S:=by omega
  subst hiS
  have ql:decide ((i:Int)<(i:Int))=false:=zZ zO
  rw [Nat.sub_self] at hr
  have hE2:yAr E res.2=.nilIface:=by rw [← hr];rfl
  have hS2:strV res.1=strV acc:=by rw [← hr];rfl
  rw [hE2,hS2]
  rcases hqv with ⟨rfl,rfl,rfl⟩|⟨hne,rfl,g,c,rfl⟩
  ·have c6:=yQm (W:=W) (b:=gb) (.pointer none)
   repeat' (first|refine yAb ?_;refine xca c6 fun _=>?_|refine yFg ?_;refine yAa (yAc rfl rfl ql) ?_|refine xst ?_|refine xsa ?_;intro _|refine xsb ?_ ?_<;>intro _<;>try omega|refine xsc ?_|refine xdr 2 yAY ?_|refine xdr 4 yAY ?_|refine xdr 6 yAY ?_|refine xdr 16 yAY ?_|refine xsd ?_ ?_|exact Rech.nil|exact xdn ()|fail)
  ·have c6:=ySB (W:=W) (b:=gb) (zPp gb) g c acc hne zO
   repeat' (first|refine yAb ?_;refine xca c6 fun _=>?_|refine yFg ?_;refine yAa (yAc rfl rfl ql) ?_|refine xst ?_|refine xsa ?_;intro _|refine xsb ?_ ?_<;>intro _<;>try omega|refine xsc ?_|refine xdr 2 yAY ?_|refine xdr 4 yAY ?_|refine xdr 6 yAY ?_|refine xdr 16 yAY ?_|refine xsd ?_ ?_|exact Rech.nil|exact xdn ()|fail)
end
end Go.Proofs.YtlnbkbfblhofbaaGreatDoor
