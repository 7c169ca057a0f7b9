/-
  Bld, Are, Are2.
-/
import Derived.Test.YtgipenahkmbelaaGreatDoorTBX
import Derived.Lib.Builder
import Derived.Lib.UnsafeStr
import Derived.Laws.Externs
import Derived.Test.YtgipenahkmbelaaGreatDoorTDX
import Derived.Test.YtgipenahkmbelaaGreatDoorTBO
set_option maxHeartbeats 64000000
namespace Go.Proofs.YtgipenahkmbelaaGreatDoor
open Go Go.RowKit
abbrev plTBS0:Pl:=(.op 0 (.op 1 (.op 2 (.op 3 (.op 4 (.op 5 (.op 6 (.op 7 (.op 8 (.op 9 (.ef 10 [] (.op 11 .nil))))))))))))
abbrev zCb:Pl:=(.op 0 (.op 1 (.op 2 .nil)))
section
variable {P:Program} {W:World} {n:Nat} {ops:Array Oper} {q:QQ} {E:Env} {H R:List SP} {k:KK} {d:Nat} {t u e T s:TypeId} {b off:Nat} {x y:Operand}
theorem is_unsafeString {xs:Array Operand} {ts:Array TypeId} {dd:Option Tmp} (h:KJ W n (.oper P (.call { callee:=.builtin .unsafeString,args:=xs,argTypes:=ts }) dd k) E H):KJ W n (.oper P (.call { callee:=.builtin .unsafeString,args:=xs,argTypes:=ts }) dd k) E H:=h
theorem ek_unsafeSliceData {xs:Array Operand} {ts:Array TypeId} {C:Value→Prop} (h:EK P W n E H (.call { callee:=.builtin .unsafeSliceData,args:=xs,argTypes:=ts }) C):EK P W n E H (.call { callee:=.builtin .unsafeSliceData,args:=xs,argTypes:=ts }) C:=h
theorem KJ_noEscape {f : FuncId} {fn : Func} {ts : Array TypeId} {v : Value} (hf : P.funcs[f]? = some fn) (h1 : (fn.name == "runtime.NumGoroutine") = false) (h2 : fn.body.isNone = true) (h3 : Extern.findNext fn = none) (h4 : Extern.find fn = some Extern.AbiNoEscape.same)
 (hx:Env.ev E x=some v) (hn:Nat.blt d n=true) (h:KJ W n k ((d,v)::E) H):KJ W n (.oper P (.call { callee:=.value (.func f),args:=#[x],argTypes:=ts }) (some d) k) E H:=
 KJ_ev (Ev.mk fun o ho a w p _=>by
  have e:a.eval (.func f)=.func (.func f) #[] #[]:=rfl
  have hc:=run_callFunc_extern hf h1 h2 h3 h4 #[v] w
  rw [Lib.run_noEscape] at hc
  simp [execOp,ho,resolve,e,Deferred.ofValue,invoke,p.ev hx,hc,Result.andThen]) hn h
theorem Ev_toUnsafe {cs:List Value} {z:Nat} (hx:Env.ev E x=some (.pointer (some ⟨b,off,none⟩))) [hs:UIs P s (.pointer u)] [hd:UIs P t .unsafePointer] [hz:SzIs P u (z+1)] (hsel:Sel (zAh b cs T) H R) (ho:off<cs.length):Ev P W n E H (.convert s t x) (.pointer (some ⟨b,off,none⟩)):=
 Ev.mk fun o hop a w p q=>by
  have hz:=hz.h
  cases hq:P.info? u with
  |none=>simp [hq] at hz
  |some j=>
   simp [hq] at hz
   have hb:=(q.blk hsel).2
   have hsh:w.shape? (⟨b,off,none⟩:Addr).block=some (T,cs.length):=by
    have:w.heap[b]? = some (.cells cs.toArray T (0,0)):=hb
    simp [World.shape?,this]
   have:=Lib.run_to_unsafe (P:=P) w ⟨b,off,none⟩ hs.h hd.h hq (by omega) hsh ho
   simp [execOp,hop,p.ev hx,this,Result.andThen]
theorem Ev_fromUnsafe {cs:List Value} {z:Nat} (hx:Env.ev E x=some (.pointer (some ⟨b,off,none⟩))) [hs:UIs P s .unsafePointer] [hd:UIs P t (.pointer u)] [hz:SzIs P u z] (hsel:Sel (zAh b cs T) H R) (hl:liesAt P P.depth T (cs.length / P.cellsOf T) off u 1=true):Ev P W n E H (.convert s t x) (.pointer (some ⟨b,off,none⟩)):=
 Ev.mk fun o hop a w p q=>by
  have hz:=hz.h
  cases hq:P.info? u with
  |none=>simp [hq] at hz
  |some j=>
   have hb:=(q.blk hsel).2
   have hsh:w.shape? (⟨b,off,none⟩:Addr).block=some (T,cs.length):=by
    have:w.heap[b]? = some (.cells cs.toArray T (0,0)):=hb
    simp [World.shape?,this]
   have:=Lib.run_from_unsafe (P:=P) w ⟨b,off,none⟩ hs.h hd.h hq hsh hl
   simp [execOp,hop,p.ev hx,this,Result.andThen]
theorem Ev_neqSame {a:Addr} {z:Nat} (hx:Env.ev E x=some (.pointer (some a))) (hy:Env.ev E y=some (.pointer (some a))) [hu:UIs P t (.pointer u)] [hz:SzIs P u z] {v:TypeId} (hg:∀ w,(eqGuard .neq t x y (.pointer (some a)) (.pointer (some a))).run P w=.ok () w):Ev P W n E H (.binOp .neq t x y v) (.bool false):=
 Ev_bin hx hy hg fun w=>by
  have hz:=hz.h
  cases hq:P.info? u with
  |none=>simp [hq] at hz
  |some j=>exact Lib.run_neq_ptr_same w a hu.h hq
theorem Ev_sliceData0 (hx:Env.ev E x=some (.slice none off b)) {ts:Array TypeId}:Ev P W n E H (.call { callee:=.builtin .unsafeSliceData,args:=#[x],argTypes:=ts }) (.pointer none):=
 Ev.mk fun o ho a w p _=>by
  simp only [execOp,ho,resolve,invoke,builtin,Sem.run_bind,Sem.run_pure,Result.andThen_ok,List.map_toArray,List.map_cons,List.map_nil,p.ev hx,Lib.run_unsafeSliceData_nil]
theorem Ev_sliceData {g i c sz:Nat} {xs:List Value} (hx:Env.ev E x=some (.slice (some ⟨g,0,none⟩) i c)) (hsel:Sel (rowP (.slice (some ⟨g,0,none⟩) i c) e sz i xs) H R) (h0:i≠0) {ts:Array TypeId}:Ev P W n E H (.call { callee:=.builtin .unsafeSliceData,args:=#[x],argTypes:=ts }) (.pointer (some ⟨g,0,none⟩)):=
 Ev.mk fun o ho a w p q=>by
  have hc:c≠0:=by
   rcases (q.row hsel).2 with ⟨h,_⟩|⟨g',cap,cur,h,_,_,hle,_⟩
   ·cases h
   ·cases h;omega
  simp only [execOp,ho,resolve,invoke,builtin,Sem.run_bind,Sem.run_pure,Result.andThen_ok,List.map_toArray,List.map_cons,List.map_nil,p.ev hx,Lib.run_unsafeSliceData_row _ _ _ _ _ _ hc]
theorem KJ_unsafeString0 (hx:Env.ev E x=some (.pointer none)) (hy:Env.ev E y=some (.int .i64 0)) (hn:Nat.blt d n=true) (h:KJ W n k ((d,strV [])::E) H):KJ W n (.oper P (.call { callee:=.builtin .unsafeString,args:=#[x,y],argTypes:=#[t,u] }) (some d) k) E H:=
 KJ_ev (Ev.mk fun o ho a w p _=>by
  simp only [execOp,ho,resolve,invoke,builtin,Sem.run_bind,Sem.run_pure,Result.andThen_ok,List.map_toArray,List.map_cons,List.map_nil,p.ev hx,p.ev hy,Lib.run_unsafeString_none]
  rfl) hn h
theorem St.frozen {w:World} {g i c sz m:Nat} {xs:List Value} (s:St W H w) (p:Sel (rowP (.slice (some ⟨g,0,none⟩) i c) e sz i xs) H R):St W R (w.freeze ⟨g,0,none⟩ m):=by
 by_cases hm:m=0
 ·have:w.freeze ⟨g,0,none⟩ m=w:=by simp [World.freeze,hm]
  rw [this]
  exact (s.perm p.perm).mono fun h q=>(DropTo.there .refl).star h q
 refine St.act (A:=[rowP (.slice (some ⟨g,0,none⟩) i c) e sz i xs]) (B:=[]) (H:=R) (s.perm p.perm) (by simp [World.freeze,hm]) (by simp [World.freeze,hm]) (by simp [World.freeze,hm]) (by simp [World.freeze,hm]) ?_
 intro h1 ⟨h,_,_,le,_,a,_⟩ l
 refine ⟨fun _=>none,trivial,(fun _ _ (hx:none=some _)=>nomatch hx),(fun _ _ (hx:none=some _)=>nomatch hx),fun kk _ hk=>?_⟩
 have hne:kk≠g:=by
  rintro rfl
  rcases a.2 with ⟨h',_⟩|⟨g',cap,cur,h',hg,_⟩
  ·cases h'
  ·cases h'
   rw [le _ _ hg] at hk;cases hk
 simp [World.freeze,hm,Array.getElem?_modify,Ne.symm hne]
theorem KJ_unsafeString {g c:Nat} {l:List UInt8} (hx:Env.ev E x=some (.pointer (some ⟨g,0,none⟩))) (hy:Env.ev E y=some (.int .i64 l.length)) [hu:UIs P t (.pointer e)] [SzIs P e 1] (hsel:Sel (rowP (.slice (some ⟨g,0,none⟩) l.length c) e 1 l.length (bvs l)) H R) (hc1:P.cellsOf e=1) (h0:l≠[]) (h63:l.length≤9223372036854775807)
 (hn:Nat.blt d n=true) (h:KJ W n k ((d,strV l)::E) R):KJ W n (.oper P (.call { callee:=.builtin .unsafeString,args:=#[x,y],argTypes:=#[t,u] }) (some d) k) E H:=by
 refine ⟨fun a w p s o ho hd=>?_⟩
 replace hsel:=hsel.app (dm a.defers)
 rcases (s.row hsel).2 with ⟨h',_⟩|⟨g',cap,cur,h',hge,hcell,hle,hmax,hsz,htk⟩
 ·cases h'
 cases h'
 rw [Nat.mul_one] at hsz htk
 have hsh:w.shape? g=some (e,c):=by simp [World.shape?,hcell,hsz]
 have hcells:∀ j z,l[j]? = some z→w.cell? ((⟨g,0,none⟩:Addr).add j)=some (.int .u8 z.toNat):=by
  intro j z hj
  have hjl:=(List.getElem?_eq_some_iff.1 hj).1
  have h2:(bvs l)[j]? = some (bv z):=by simp [bvs,hj]
  rw [← htk,List.getElem?_take_of_lt hjl] at h2
  have e1:(⟨g,0,none⟩:Addr).add j=⟨g,j,none⟩:=by unfold Addr.add;by_cases hj0:j=0 <;> simp [hj0]
  rw [e1,Lib.cell_of_heap hcell]
  simpa [bv] using h2
 have hrun:=Lib.run_unsafeString_row (P:=P) w t u o.type e hu.h hc1 g c hsh l h0 hle h63 hcells
 show uponP P o a _ ((execOp a.eval o).run P w)
 have hr2:(execOp a.eval o).run P w=.ok (.value (strV l)) (w.freeze ⟨g,0,none⟩ l.length):=by
  simp only [execOp,ho,resolve,invoke,builtin,Sem.run_bind,Sem.run_pure,Result.andThen_ok,List.map_toArray,List.map_cons,List.map_nil,p.ev hx,p.ev hy,hrun]
 rw [hr2]
 have:=h.go _ _ (p.put (d:=some d) hn _) (s.frozen (m:=l.length) hsel)
 rw [← hd] at this
 exact this
end
section
variable {W:World} {b:Nat}
abbrev bldP (b:Nat) (q v:Value):SP:=zAh b [q,v] 212
theorem copyCheck_new (v:Value):Ct Tryz.prog W 179 [.pointer (some ⟨b,0,none⟩)] [bldP b (.pointer none) v] (fun _:Unit=>.tuple #[]) (fun _=>[bldP b (.pointer (some ⟨b,0,none⟩)) v]):=by
 refine Ct.enter Tryz.func179 rfl Tryz.ntmps179 (by simp) (fun R=>?_)
 repeat' (first|(refine zAd ?_;refine KJ_noEscape Tryz.func190 (by kernel_rfl) (by kernel_rfl) (by kernel_rfl) (by kernel_rfl) rfl rfl ?_)|(refine zBu ?_;first|refine zAb (Ev_toUnsafe rfl xS (by show (0:Nat)<2;omega)) ?_|refine zAb (Ev_fromUnsafe rfl xS (by kernel_rfl)) ?_)|(refine zBz ?_;refine zAb (Ev_neqSame rfl rfl (fun _=>rfl)) ?_)|refine xst ?_|(refine xsa ?_;intro _)|(refine xsb ?_ ?_ <;>intro _<;>try (exfalso;omega))|refine xsc ?_|fail)
 all_goals (exact xdn ())
theorem copyCheck_used (v:Value):Ct Tryz.prog W 179 [.pointer (some ⟨b,0,none⟩)] [bldP b (.pointer (some ⟨b,0,none⟩)) v] (fun _:Unit=>.tuple #[]) (fun _=>[bldP b (.pointer (some ⟨b,0,none⟩)) v]):=by
 refine Ct.enter Tryz.func179 rfl Tryz.ntmps179 (by simp) (fun R=>?_)
 repeat' (first|(refine zBz ?_;refine zAb (Ev_neqSame rfl rfl (fun _=>rfl)) ?_)|refine xst ?_|(refine xsa ?_;intro _)|(refine xsb ?_ ?_ <;>intro _<;>try (exfalso;omega))|refine xsc ?_|fail)
 all_goals (exact xdn ())
theorem writeString_ct (q:Value) (hq:q=.pointer none∨q=.pointer (some ⟨b,0,none⟩)) (v:Value) (acc s:List UInt8) (h0:s≠[]) (hb:acc.length+s.length≤140737488355328) :
 Ct Tryz.prog W 142 [.pointer (some ⟨b,0,none⟩),strV s] [bldP b q v,rowP v 5 1 acc.length (bvs acc)] (fun _:Nat × Nat=>.tuple #[.int .i64 s.length,.nilIface])
  (fun x=>[bldP b (.pointer (some ⟨b,0,none⟩)) (.slice (some ⟨x.1,0,none⟩) (acc.length+s.length) x.2),rowP (.slice (some ⟨x.1,0,none⟩) (acc.length+s.length) x.2) 5 1 (acc.length+s.length) (bvs acc++bvs s)]):=by
 have c1:Ct Tryz.prog W 179 [.pointer (some ⟨b,0,none⟩)] [bldP b q v] (fun _:Unit=>.tuple #[]) (fun _=>[bldP b (.pointer (some ⟨b,0,none⟩)) v]):=by
  rcases hq with rfl|rfl
  ·exact copyCheck_new v
  ·exact copyCheck_used v
 refine Ct.enter Tryz.func142 rfl Tryz.ntmps142 (by simp) (fun R=>?_)
 repeat' (first|(refine zAd ?_;refine zAc xE c1 xP rfl (fun _=>?_))|(refine zBq ?_;refine KJ_appendStr rfl rfl xS (.inl h0) hb rfl (fun g c=>?_))|refine xst ?_|(refine xsa ?_;intro _)|(refine xsb ?_ ?_ <;>intro _<;>try (exfalso;omega))|refine xsc ?_|fail)
 all_goals (exact xdn (_,_))
theorem string_nil (q:Value):Ct Tryz.prog W 143 [.pointer (some ⟨b,0,none⟩)] [bldP b q (.slice none 0 0)] (fun _:Unit=>strV []) (fun _=>[]):=by
 refine Ct.enter Tryz.func143 rfl Tryz.ntmps143 (by simp) (fun R=>?_)
 repeat' (first|(refine is_unsafeString ?_;refine KJ_unsafeString0 rfl rfl rfl ?_)|(refine ek_unsafeSliceData ?_;refine zAb (Ev_sliceData0 rfl) ?_)|refine xst ?_|(refine xsa ?_;intro _)|(refine xsb ?_ ?_ <;>intro _<;>try (exfalso;omega))|refine xsc ?_|(refine zAa (id:=1) plTBS0 (by kernel_rfl) (by kernel_rfl) ?_)|refine zAp ?_ ?_|refine zAn rfl rfl rfl rfl rfl ?_ ?_|refine zAg ?_ ?_|exact Rech.nil|fail)
 all_goals (exact xdn ())
theorem string_ct (q:Value) (g c:Nat) (acc:List UInt8) (h0:acc≠[]) (hb:acc.length≤9223372036854775807):Ct Tryz.prog W 143 [.pointer (some ⟨b,0,none⟩)] [bldP b q (.slice (some ⟨g,0,none⟩) acc.length c),rowP (.slice (some ⟨g,0,none⟩) acc.length c) 5 1 acc.length (bvs acc)] (fun _:Unit=>strV acc) (fun _=>[]):=by
 have hne:acc.length≠0:=by simpa using h0
 refine Ct.enter Tryz.func143 rfl Tryz.ntmps143 (by simp) (fun R=>?_)
 repeat' (first|(refine is_unsafeString ?_;refine KJ_unsafeString rfl rfl xS (by kernel_rfl) h0 hb rfl ?_)|(refine ek_unsafeSliceData ?_;refine zAb (Ev_sliceData rfl xS hne) ?_)|refine xst ?_|(refine xsa ?_;intro _)|(refine xsb ?_ ?_ <;>intro _<;>try (exfalso;omega))|refine xsc ?_|(refine zAa (id:=1) plTBS0 (by kernel_rfl) (by kernel_rfl) ?_)|refine zAp ?_ ?_|refine zAn rfl rfl rfl rfl rfl ?_ ?_|refine zAg ?_ ?_|exact Rech.nil|fail)
 all_goals (exact xdn ())
end
end Go.Proofs.YtgipenahkmbelaaGreatDoor
namespace Go.Proofs.YtgipenahkmbelaaGreatDoor
open Go Go.RowKit
def roomI (n:Int):Int:=234*min (max n 0) 65536
def sectorsI (b:Int):Int:=if b≤0 then 0 else (b-1) / 234+1
section
variable {W:World} {E:Nat→Addr} {p:Nat} {D:Dsk}
theorem room9_ct (n:Int):Ct Tryz.prog W 94 [.int .i64 n] [] (fun _:Unit=>.int .i64 (roomI n)) (fun _=>[]):=by
 have hb:0≤min (max n 0) 65536∧min (max n 0) 65536≤65536:=by omega
 refine Ct.enter Tryz.func94 rfl Tryz.ntmps94 (by simp) (fun R=>?_)
 repeat' (first|(refine ek_mul ?_;refine zAb (Ev_mulI_v (r:=roomI n) rfl rfl rfl (by unfold roomI;omega)) ?_)|refine xst ?_|(refine xsa ?_;intro _)|(refine xsb ?_ ?_ <;>intro _<;>try (exfalso;omega))|refine xsc ?_|fail)
 all_goals (exact xdn ())
theorem sectors9_ct (b:Int) (hb:b≤9223372036854775807):Ct Tryz.prog W 141 [.int .i64 b] [] (fun _:Unit=>.int .i64 (sectorsI b)) (fun _=>[]):=by
 by_cases h:b≤0
 ·have q:decide (b≤0)=true:=decide_eq_true h
  rw [show sectorsI b=0 from if_pos h]
  refine Ct.enter Tryz.func141 rfl Tryz.ntmps141 (by simp) (fun R=>?_)
  repeat' (first|(refine ek_leq ?_;refine zAb (Ev_leqI_q rfl rfl q) ?_)|refine xst ?_|(refine xsa ?_;intro _)|(refine xsb ?_ ?_ <;>intro _<;>try (exfalso;omega))|refine xsc ?_|fail)
  all_goals (exact xdn ())
 ·have q:decide (b≤0)=false:=decide_eq_false h
  rw [show sectorsI b=(b-1) / 234+1 from if_neg h]
  refine Ct.enter Tryz.func141 rfl Tryz.ntmps141 (by simp) (fun R=>?_)
  repeat' (first|(refine ek_leq ?_;refine zAb (Ev_leqI_q rfl rfl q) ?_)|refine xst ?_|(refine xsa ?_;intro _)|(refine xsb ?_ ?_ <;>intro _<;>try (exfalso;omega))|refine xsc ?_|fail)
  all_goals (exact xdn ())
end
def Dsk.mayB (D:Dsk) (at_ n:Int):Bool:=decide (0≤at_∧0≤n∧at_≤D.n∧n≤D.n-at_)
section
variable {W:World} {E:Nat→Addr} {p:Nat} {D:Dsk}
theorem may_ct (at_ n:Int) (hn:D.n≤65536):Ct Tryz.prog W 133 [.pointer (some ⟨p,0,none⟩),.int .i64 at_,.int .i64 n] [DiskP p D] (fun _:Unit=>.bool (D.mayB at_ n)) (fun _=>[DiskP p D]):=by
 have c1:Ct Tryz.prog W 59 [.pointer (some ⟨p,0,none⟩)] [DiskP p D] (fun _:Unit=>.int .i64 D.n) (fun _=>[DiskP p D]):=size_ct
 by_cases h1:0≤at_
 ·by_cases h2:0≤n
  ·by_cases h3:at_≤D.n
   ·have hr:decide (n≤(D.n:Int)-at_)=D.mayB at_ n:=by unfold Dsk.mayB;simp [h1,h2,h3]
    have q1:decide (0≤at_)=true:=decide_eq_true h1
    have q2:decide (0≤n)=true:=decide_eq_true h2
    have q3:decide (at_≤(D.n:Int))=true:=decide_eq_true h3
    refine Ct.enter Tryz.func133 rfl Tryz.ntmps133 (by simp) (fun R=>?_)
    repeat' (first|(refine zAd ?_;refine zAc xE c1 xP rfl (fun _=>?_))|(refine ek_leq ?_;first|refine zAb (Ev_leqI_q rfl rfl q3) ?_|refine zAb (Ev_leqI_q rfl rfl hr) ?_)|(refine ek_geq ?_;first|refine zAb (zBk rfl rfl q1) ?_|refine zAb (zBk rfl rfl q2) ?_)|refine xst ?_|(refine xsa ?_;intro _)|(refine xsb ?_ ?_ <;>intro _<;>try (exfalso;omega))|refine xsc ?_|fail)
    all_goals (exact xdn ())
   ·have hr:D.mayB at_ n=false:=by unfold Dsk.mayB;simp [h3]
    have q1:decide (0≤at_)=true:=decide_eq_true h1
    have q2:decide (0≤n)=true:=decide_eq_true h2
    have q3:decide (at_≤(D.n:Int))=false:=decide_eq_false h3
    rw [hr]
    refine Ct.enter Tryz.func133 rfl Tryz.ntmps133 (by simp) (fun R=>?_)
    repeat' (first|(refine zAd ?_;refine zAc xE c1 xP rfl (fun _=>?_))|(refine ek_leq ?_;refine zAb (Ev_leqI_q rfl rfl q3) ?_)|(refine ek_geq ?_;first|refine zAb (zBk rfl rfl q1) ?_|refine zAb (zBk rfl rfl q2) ?_)|refine xst ?_|(refine xsa ?_;intro _)|(refine xsb ?_ ?_ <;>intro _<;>try (exfalso;omega))|refine xsc ?_|fail)
    all_goals (exact xdn ())
  ·have hr:D.mayB at_ n=false:=by unfold Dsk.mayB;simp [h2]
   have q1:decide (0≤at_)=true:=decide_eq_true h1
   have q2:decide (0≤n)=false:=decide_eq_false h2
   rw [hr]
   refine Ct.enter Tryz.func133 rfl Tryz.ntmps133 (by simp) (fun R=>?_)
   repeat' (first|(refine ek_geq ?_;first|refine zAb (zBk rfl rfl q1) ?_|refine zAb (zBk rfl rfl q2) ?_)|refine xst ?_|(refine xsa ?_;intro _)|(refine xsb ?_ ?_ <;>intro _<;>try (exfalso;omega))|refine xsc ?_|fail)
   all_goals (exact xdn ())
 ·have hr:D.mayB at_ n=false:=by unfold Dsk.mayB;simp [h1]
  have q1:decide (0≤at_)=false:=decide_eq_false h1
  rw [hr]
  refine Ct.enter Tryz.func133 rfl Tryz.ntmps133 (by simp) (fun R=>?_)
  repeat' (first|(refine ek_geq ?_;refine zAb (zBk rfl rfl q1) ?_)|refine xst ?_|(refine xsa ?_;intro _)|(refine xsb ?_ ?_ <;>intro _<;>try (exfalso;omega))|refine xsc ?_|fail)
  all_goals (exact xdn ())
end
end Go.Proofs.YtgipenahkmbelaaGreatDoor
namespace Go.Proofs.YtgipenahkmbelaaGreatDoor
open Go Go.RowKit
section
variable {P:Program} {W:World} {n:Nat} {E:Env} {H R:List SP} {k:KK} {t u:TypeId} {x y z:Operand}
theorem Ev_min_v {kd:IntKind} {i j r:Int} {ts:Array TypeId} (hx:Env.ev E x=some (.int kd i)) (hy:Env.ev E y=some (.int kd j)) (h:min i j=r):Ev P W n E H (.call { callee:=.builtin .min,args:=#[x,y],argTypes:=ts }) (.int kd r):=by subst h;exact Ev_min hx hy
theorem Ev_sliceStrTo_v {l r:List UInt8} {j:Int} {kj:IntKind} (hx:Env.ev E x=some (strV l)) (hz:Env.ev E z=some (.int kj j)) [hu:UIs P t .string] (hb:0≤j∧j≤l.length) (h:l.take j.toNat=r):Ev P W n E H (.slice t x none (some z) none) (strV r):=by subst h;exact Ev_sliceStrTo hx hz hb
theorem zCi {l r:List UInt8} {i:Int} {ki:IntKind} (hx:Env.ev E x=some (strV l)) (hy:Env.ev E y=some (.int ki i)) [hu:UIs P t .string] (hb:0≤i∧i≤l.length) (h:l.drop i.toNat=r):Ev P W n E H (.slice t x (some y) none none) (strV r):=by subst h;exact Ev_sliceStrFrom hx hy hb
theorem row0_star {e sz:Nat}:∀ g,zAj H g→zAj (rowP (.slice none 0 0) e sz 0 []::H) g:=
 fun g q=>⟨fun _=>none,g,(fun _ _ q=>by cases q),(fun _ _ q=>by cases q),.rfl,⟨by simp,.inl ⟨rfl,rfl⟩⟩,q⟩
theorem KJ.row0 {e sz:Nat} (h:KJ W n k E (rowP (.slice none 0 0) e sz 0 []::H)):KJ W n k E H:=⟨fun a w q s=>h.go a w q (s.mono row0_star)⟩
end
def awGo (at_ stamp:Int):Nat→Dsk→Int→List UInt8→Nat × Dsk
 |0,D,_,_=>(D.flushE,D.flushD)
 |f+1,D,i,v=>if v=[] then (D.flushE,D.flushD) else if D.writeE (at_+i) (zBs stamp (v.take 234))≠0 then (D.writeE (at_+i) (zBs stamp (v.take 234)),D.writeD (at_+i) (zBs stamp (v.take 234)))
  else awGo at_ stamp f (D.writeD (at_+i) (zBs stamp (v.take 234))) (i+1) (v.drop 234)
def areaW (D:Dsk) (at_ n stamp:Int) (v:List UInt8):Nat × Dsk:=
 if D.mayB at_ n=false then (6,D) else if stamp=0 then (6,D) else if roomI n<(v.length:Int) then (3,D) else if D.off then (12,D) else awGo at_ stamp v.length D 0 v
theorem awGo_nil (at_ stamp:Int) (f:Nat) (D:Dsk) (i:Int):awGo at_ stamp f D i []=(D.flushE,D.flushD):=by cases f <;> simp [awGo]
section
variable {W:World} {E:Nat→Addr} {p:Nat} {D:Dsk}
set_option maxRecDepth 100000 in
theorem awrite_ct (hE:ErrsOn L8 W E) (hN:NibAt W) (hn:D.n≤65536) (hul:D.und.length+65536<1073741823) (at_ n stamp:Int) (v:List UInt8) :
 Ct Tryz.prog W 98 [.pointer (some ⟨p,0,none⟩),.int .i64 at_,.int .i64 n,.int .u64 stamp,strV v] [DiskP p D] (fun _:Unit=>errV E (areaW D at_ n stamp v).1) (fun _=>[DiskP p (areaW D at_ n stamp v).2]):=by
 have e3:W.cell? ⟨12,0,none⟩=some (errV E 3):=hE.at_ 3 (by decide)
 have e6:W.cell? ⟨1,0,none⟩=some (errV E 6):=hE.at_ 6 (by decide)
 have e12:W.cell? ⟨3,0,none⟩=some (errV E 12):=hE.at_ 12 (by decide)
 have c1:=may_ct (W:=W) (p:=p) at_ n hn
 by_cases h1:D.mayB at_ n=false
 ·rw [show areaW D at_ n stamp v=(6,D) from if_pos h1]
  rw [h1] at c1
  refine Ct.enter Tryz.func98 rfl Tryz.ntmps98 (by simp) (fun R=>?_)
  repeat' (first|(refine zAd ?_;refine zAc xE c1 xP rfl (fun _=>?_))|(refine zAm ?_;refine zAb (zAt rfl e6) ?_)|refine xst ?_|(refine xsa ?_;intro _)|(refine xsb ?_ ?_ <;>intro _<;>try (exfalso;omega))|refine xsc ?_|fail)
  all_goals (exact xdn ())
 have h1':D.mayB at_ n=true:=by simpa using h1
 rw [h1'] at c1
 by_cases h2:stamp=0
 ·rw [show areaW D at_ n stamp v=(6,D) from (if_neg h1).trans (if_pos h2)]
  refine Ct.enter Tryz.func98 rfl Tryz.ntmps98 (by simp) (fun R=>?_)
  repeat' (first|(refine zAd ?_;refine zAc xE c1 xP rfl (fun _=>?_))|(refine zAm ?_;refine zAb (zAt rfl e6) ?_)|(refine zBg ?_;refine zAb (Ev_eqlI_t rfl rfl h2) ?_)|refine xst ?_|(refine xsa ?_;intro _)|(refine xsb ?_ ?_ <;>intro _<;>try (exfalso;omega))|refine xsc ?_|fail)
  all_goals (exact xdn ())
 have c2:=room9_ct (W:=W) n
 by_cases h3:roomI n<(v.length:Int)
 ·rw [show areaW D at_ n stamp v=(3,D) from (if_neg h1).trans ((if_neg h2).trans (if_pos h3))]
  have q3:decide (roomI n<(v.length:Int))=true:=decide_eq_true h3
  refine Ct.enter Tryz.func98 rfl Tryz.ntmps98 (by simp) (fun R=>?_)
  repeat' (first|(refine zAd ?_;first|(refine zAc xE c1 xP rfl (fun _=>?_))|(refine zAc xE c2 xP rfl (fun _=>?_)))|(refine zAm ?_;refine zAb (zAt rfl e3) ?_)|(refine zBg ?_;refine zAb (Ev_eqlI_f rfl rfl h2) ?_)|(refine zBf ?_;refine zAb (zAk rfl rfl q3) ?_)|refine xst ?_|(refine xsa ?_;intro _)|(refine xsb ?_ ?_ <;>intro _<;>try (exfalso;omega))|refine xsc ?_|fail)
  all_goals (exact xdn ())
 have q3:decide (roomI n<(v.length:Int))=false:=decide_eq_false h3
 have c3:Ct Tryz.prog W 60 [.pointer (some ⟨p,0,none⟩)] [DiskP p D] (fun _:Unit=>.bool D.off) (fun _=>[DiskP p D]):=off_ct
 by_cases h4:D.off=true
 ·rw [show areaW D at_ n stamp v=(12,D) from (if_neg h1).trans ((if_neg h2).trans ((if_neg h3).trans (if_pos h4)))]
  rw [h4] at c3
  refine Ct.enter Tryz.func98 rfl Tryz.ntmps98 (by simp) (fun R=>?_)
  repeat' (first|(refine zAd ?_;first|(refine zAc xE c1 xP rfl (fun _=>?_))|(refine zAc xE c2 xP rfl (fun _=>?_))|(refine zAc xE c3 xP rfl (fun _=>?_)))|(refine zAm ?_;refine zAb (zAt rfl e12) ?_)|(refine zBg ?_;refine zAb (Ev_eqlI_f rfl rfl h2) ?_)|(refine zBf ?_;refine zAb (zAk rfl rfl q3) ?_)|refine xst ?_|(refine xsa ?_;intro _)|(refine xsb ?_ ?_ <;>intro _<;>try (exfalso;omega))|refine xsc ?_|fail)
  all_goals (exact xdn ())
 have h4':D.off=false:=by simpa using h4
 rw [h4'] at c3
 have hW:areaW D at_ n stamp v=awGo at_ stamp v.length D 0 v:=(if_neg h1).trans ((if_neg h2).trans ((if_neg h3).trans (if_neg h4)))
 rw [hW]
 obtain ⟨res,hres⟩:∃ res,res=awGo at_ stamp v.length D 0 v:=⟨_,rfl⟩
 rw [← hres]
 have hat:0≤at_∧at_≤65536:=by
  unfold Dsk.mayB at h1'
  have:=of_decide_eq_true h1'
  omega
 have hvl:v.length≤234*65536:=by unfold roomI at h3;omega
 refine Ct.enter Tryz.func98 rfl Tryz.ntmps98 (by simp) (fun R=>?_)
 repeat' (first|(refine zAd ?_;first|(refine zAc xE c1 xP rfl (fun _=>?_))|(refine zAc xE c2 xP rfl (fun _=>?_))|(refine zAc xE c3 xP rfl (fun _=>?_)))|(refine zBg ?_;refine zAb (Ev_eqlI_f rfl rfl h2) ?_)|(refine zBf ?_;refine zAb (zAk rfl rfl q3) ?_)|refine xst ?_|(refine xsa ?_;intro _)|(refine xsb ?_ ?_ <;>intro _<;>try (exfalso;omega))|refine xsc ?_|fail)
 refine zBv (fun i:{s:Nat × Nat × Dsk × List UInt8//awGo at_ stamp s.2.1 s.2.2.1 s.1 s.2.2.2=res∧s.2.2.1.und.length≤D.und.length+s.1∧(s.2.2.2≠[]→s.2.2.2.length+234*s.1=v.length)∧s.2.2.2.length≤234*s.2.1∧s.1≤65536}=>
  [(0,.pointer (some ⟨p,0,none⟩)),(1,.int .i64 at_),(3,.int .u64 stamp),(4,strV i.1.2.2.2),(11,.int .i64 (i.1.1:Nat))]) (fun i=>[DiskP p i.1.2.2.1]++R) (fun i=>i.1.2.1) ⟨(0,v.length,D,v),hres.symm,by simp,fun _=>by simp,by dsimp only;omega,by dsimp only;omega⟩ xB (fun _ q=>q) (fun ⟨(k,f,Dk,rest),hr,hu,hlen,hf,hk⟩=>?_)
 dsimp only at hr hu hlen hf hk ⊢
 by_cases hr0:rest=[]
 ·subst hr0
  rw [awGo_nil] at hr
  have hD2:res.2=Dk.flushD:=by rw [← hr]
  have hE2:errV E res.1=errV E Dk.flushE:=by rw [← hr]
  rw [hD2,hE2]
  have c4:Ct Tryz.prog W 136 [.pointer (some ⟨p,0,none⟩)] [DiskP p Dk] (fun _:Unit=>errV E Dk.flushE) (fun _=>[DiskP p Dk.flushD]):=flush_ct hE (by omega)
  repeat' (first|(refine zAd ?_;refine zAc xE c4 xP rfl (fun _=>?_))|(refine zBz ?_;refine zAb (Ev_neqS_f rfl rfl rfl) ?_)|refine xst ?_|(refine xsa ?_;intro _)|(refine xsb ?_ ?_ <;>intro _<;>try (exfalso;omega))|refine xsc ?_|fail)
  all_goals (exact xdn ())
 ·obtain ⟨f',rfl⟩:∃ f',f=f'+1:=⟨f-1,by have:=List.length_pos_iff.2 hr0;omega⟩
  have hlen:=hlen hr0
  have hpos:=List.length_pos_iff.2 hr0
  have hunf:awGo at_ stamp (f'+1) Dk k rest=if Dk.writeE (at_+k) (zBs stamp (rest.take 234))≠0 then (Dk.writeE (at_+k) (zBs stamp (rest.take 234)),Dk.writeD (at_+k) (zBs stamp (rest.take 234)))
   else awGo at_ stamp f' (Dk.writeD (at_+k) (zBs stamp (rest.take 234))) (k+1) (rest.drop 234):=by
   show (if rest=[] then _ else _)=_
   rw [if_neg hr0]
  rw [hunf] at hr
  clear hunf
  obtain ⟨pc,hpc⟩:∃ pc,pc=rest.take 234:=⟨_,rfl⟩
  obtain ⟨r2,hr2⟩:∃ r2,r2=rest.drop 234:=⟨_,rfl⟩
  have hpl:pc.length=min rest.length 234:=by rw [hpc,List.length_take];omega
  have hm1:min (rest.length:Int) 234=(pc.length:Nat):=by omega
  have hs1:rest.take ((pc.length:Nat):Int).toNat=pc:=by rw [Int.toNat_natCast,hpl,hpc];exact List.take_eq_take_iff.2 (by omega)
  have hs2:rest.drop ((pc.length:Nat):Int).toNat=r2:=by
   rw [Int.toNat_natCast,hpl,hr2]
   by_cases hh:rest.length≤234
   ·rw [List.drop_of_length_le (by omega),List.drop_of_length_le (by omega)]
   ·rw [show min rest.length 234=234 by omega]
  have hr2l:r2.length=rest.length-234:=by rw [hr2,List.length_drop]
  rw [← hpc,← hr2] at hr
  have c5:=seal_ok hN stamp pc h2 (by omega)
  have c6:Ct Tryz.prog W 135 [.pointer (some ⟨p,0,none⟩),.int .i64 (at_+(k:Nat)),strV (zBs stamp pc)] [DiskP p Dk] (fun _:Unit=>errV E (Dk.writeE (at_+k) (zBs stamp pc))) (fun _=>[DiskP p (Dk.writeD (at_+k) (zBs stamp pc))]):=write_ct hE _ _ (by omega)
  have hu1:=writeD_und Dk (at_+k) (zBs stamp pc)
  obtain ⟨D1,hD1⟩:∃ D1,D1=Dk.writeD (at_+k) (zBs stamp pc):=⟨_,rfl⟩
  obtain ⟨e,he⟩:∃ e,e=Dk.writeE (at_+k) (zBs stamp pc):=⟨_,rfl⟩
  rw [← hD1] at c6 hr hu1
  rw [← he] at c6 hr
  clear hpc hr2 hD1 he
  by_cases hz:e=0
  ·subst hz
   rw [if_neg (by simp)] at hr
   have c6':Ct Tryz.prog W 135 [.pointer (some ⟨p,0,none⟩),.int .i64 (at_+(k:Nat)),strV (zBs stamp pc)] [DiskP p Dk] (fun _:Unit=>.nilIface) (fun _=>[DiskP p D1]):=c6
   repeat' (first|(refine zAd ?_;first|(refine zAc xE c6' xP rfl (fun _=>?_))|(refine zAc xE c5 xP rfl (fun _=>?_)))|(refine zCg ?_;first|refine zAb (zCi rfl rfl (by omega) hs2) ?_|refine zAb (Ev_sliceStrTo_v rfl rfl (by omega) hs1) ?_)|(refine ek_min ?_;refine zAb (Ev_min_v rfl rfl hm1) ?_)|(refine zBz ?_;refine zAb (Ev_neqS_t rfl rfl hr0) ?_)|refine xst ?_|(refine xsa ?_;intro _)|(refine xsb ?_ ?_ <;>intro _<;>try (exfalso;omega))|refine xsc ?_|fail)
   exact zAv ⟨(k+1,f',D1,r2),hr,by dsimp only;omega,fun hn2=>by dsimp only;have:=List.length_pos_iff.2 hn2;dsimp only at this;omega,by dsimp only;omega,by dsimp only;omega⟩ (by show f'<f'+1;omega) xB (xN)
  ·rw [if_pos hz] at hr
   have hD2:res.2=D1:=by rw [← hr]
   have hE2:errV E res.1=errV E e:=by rw [← hr]
   rw [hD2,hE2]
   obtain ⟨ea,hea⟩:=errV_ne (E:=E) hz
   rw [hea] at c6 ⊢
   repeat' (first|(refine zAd ?_;first|(refine zAc xE c6 xP rfl (fun _=>?_))|(refine zAc xE c5 xP rfl (fun _=>?_)))|(refine zCg ?_;first|refine zAb (zCi rfl rfl (by omega) hs2) ?_|refine zAb (Ev_sliceStrTo_v rfl rfl (by omega) hs1) ?_)|(refine ek_min ?_;refine zAb (Ev_min_v rfl rfl hm1) ?_)|(refine zBz ?_;refine zAb (Ev_neqS_t rfl rfl hr0) ?_)|refine xst ?_|(refine xsa ?_;intro _)|(refine xsb ?_ ?_ <;>intro _<;>try (exfalso;omega))|refine xsc ?_|fail)
   all_goals (exact xdn ())
def arGo (D:Dsk) (at_ stamp bytes:Int):Nat→Nat→List UInt8→List UInt8 × Nat
 |0,_,acc=>(acc,0)
 |f+1,i,acc=>if D.readE (at_+i)≠0 then ([],D.readE (at_+i)) else
  match openS stamp (D.readS (at_+i)) with
  |none=>([],15)
  |some pc=>if (pc.length:Int)≠min (bytes-i*234) 234 then ([],15) else arGo D at_ stamp bytes f (i+1) (acc++pc)
def areaR (D:Dsk) (at_ n stamp bytes:Int):List UInt8 × Nat:=
 if D.mayB at_ n=false then ([],6) else if stamp=0 then ([],6) else if bytes<0 then ([],6) else if roomI n<bytes then ([],3) else if D.off then ([],12) else arGo D at_ stamp bytes (sectorsI bytes).toNat 0 []
set_option maxRecDepth 100000 in
theorem aread_ct (hE:ErrsOn L8 W E) (e15:W.cell? ⟨8,0,none⟩=some (errV E 15)) (hN:NibAt W) (hn:D.n≤65536) (at_ n stamp bytes:Int) :
 Ct Tryz.prog W 109 [.pointer (some ⟨p,0,none⟩),.int .i64 at_,.int .i64 n,.int .u64 stamp,.int .i64 bytes] [DiskP p D] (fun _:Unit=>.tuple #[strV (areaR D at_ n stamp bytes).1,errV E (areaR D at_ n stamp bytes).2]) (fun _=>[DiskP p D]):=by
 have e3:W.cell? ⟨12,0,none⟩=some (errV E 3):=hE.at_ 3 (by decide)
 have e6:W.cell? ⟨1,0,none⟩=some (errV E 6):=hE.at_ 6 (by decide)
 have e12:W.cell? ⟨3,0,none⟩=some (errV E 12):=hE.at_ 12 (by decide)
 have c1:=may_ct (W:=W) (p:=p) at_ n hn
 by_cases h1:D.mayB at_ n=false
 ·rw [show areaR D at_ n stamp bytes=([],6) from if_pos h1]
  rw [h1] at c1
  refine Ct.enter Tryz.func109 rfl Tryz.ntmps109 (by simp) (fun R=>?_)
  repeat' (first|(refine zAd ?_;refine zAc xE c1 xP rfl (fun _=>?_))|(refine zAm ?_;refine zAb (zAt rfl e6) ?_)|refine xst ?_|(refine xsa ?_;intro _)|(refine xsb ?_ ?_ <;>intro _<;>try (exfalso;omega))|refine xsc ?_|(refine zAa (id:=2) zCb (by kernel_rfl) (by kernel_rfl) ?_)|(refine zAa (id:=4) zCb (by kernel_rfl) (by kernel_rfl) ?_)|(refine zAa (id:=6) zCb (by kernel_rfl) (by kernel_rfl) ?_)|(refine zAa (id:=16) zCb (by kernel_rfl) (by kernel_rfl) ?_)|refine zAp ?_ ?_|refine zAn rfl rfl rfl rfl rfl ?_ ?_|refine zAg ?_ ?_|exact Rech.nil|fail)
  all_goals (exact xdn ())
 have h1':D.mayB at_ n=true:=by simpa using h1
 rw [h1'] at c1
 by_cases h2:stamp=0
 ·rw [show areaR D at_ n stamp bytes=([],6) from (if_neg h1).trans (if_pos h2)]
  refine Ct.enter Tryz.func109 rfl Tryz.ntmps109 (by simp) (fun R=>?_)
  repeat' (first|(refine zAd ?_;refine zAc xE c1 xP rfl (fun _=>?_))|(refine zAm ?_;refine zAb (zAt rfl e6) ?_)|(refine zBg ?_;refine zAb (Ev_eqlI_t rfl rfl h2) ?_)|refine xst ?_|(refine xsa ?_;intro _)|(refine xsb ?_ ?_ <;>intro _<;>try (exfalso;omega))|refine xsc ?_|(refine zAa (id:=2) zCb (by kernel_rfl) (by kernel_rfl) ?_)|(refine zAa (id:=4) zCb (by kernel_rfl) (by kernel_rfl) ?_)|(refine zAa (id:=6) zCb (by kernel_rfl) (by kernel_rfl) ?_)|(refine zAa (id:=16) zCb (by kernel_rfl) (by kernel_rfl) ?_)|refine zAp ?_ ?_|refine zAn rfl rfl rfl rfl rfl ?_ ?_|refine zAg ?_ ?_|exact Rech.nil|fail)
  all_goals (exact xdn ())
 by_cases hb:bytes<0
 ·rw [show areaR D at_ n stamp bytes=([],6) from (if_neg h1).trans ((if_neg h2).trans (if_pos hb))]
  have qb:decide (bytes<0)=true:=decide_eq_true hb
  refine Ct.enter Tryz.func109 rfl Tryz.ntmps109 (by simp) (fun R=>?_)
  repeat' (first|(refine zAd ?_;refine zAc xE c1 xP rfl (fun _=>?_))|(refine zAm ?_;refine zAb (zAt rfl e6) ?_)|(refine zBg ?_;refine zAb (Ev_eqlI_f rfl rfl h2) ?_)|(refine zAq ?_;refine zAb (zAe rfl rfl qb) ?_)|refine xst ?_|(refine xsa ?_;intro _)|(refine xsb ?_ ?_ <;>intro _<;>try (exfalso;omega))|refine xsc ?_|(refine zAa (id:=2) zCb (by kernel_rfl) (by kernel_rfl) ?_)|(refine zAa (id:=4) zCb (by kernel_rfl) (by kernel_rfl) ?_)|(refine zAa (id:=6) zCb (by kernel_rfl) (by kernel_rfl) ?_)|(refine zAa (id:=16) zCb (by kernel_rfl) (by kernel_rfl) ?_)|refine zAp ?_ ?_|refine zAn rfl rfl rfl rfl rfl ?_ ?_|refine zAg ?_ ?_|exact Rech.nil|fail)
  all_goals (exact xdn ())
 have qb:decide (bytes<0)=false:=decide_eq_false hb
 have c2:=room9_ct (W:=W) n
 by_cases h3:roomI n<bytes
 ·rw [show areaR D at_ n stamp bytes=([],3) from (if_neg h1).trans ((if_neg h2).trans ((if_neg hb).trans (if_pos h3)))]
  have q3:decide (roomI n<bytes)=true:=decide_eq_true h3
  refine Ct.enter Tryz.func109 rfl Tryz.ntmps109 (by simp) (fun R=>?_)
  repeat' (first|(refine zAd ?_;first|(refine zAc xE c1 xP rfl (fun _=>?_))|(refine zAc xE c2 xP rfl (fun _=>?_)))|(refine zAm ?_;refine zAb (zAt rfl e3) ?_)|(refine zBg ?_;refine zAb (Ev_eqlI_f rfl rfl h2) ?_)|(refine zAq ?_;refine zAb (zAe rfl rfl qb) ?_)|(refine zBf ?_;refine zAb (zAk rfl rfl q3) ?_)|refine xst ?_|(refine xsa ?_;intro _)|(refine xsb ?_ ?_ <;>intro _<;>try (exfalso;omega))|refine xsc ?_|(refine zAa (id:=2) zCb (by kernel_rfl) (by kernel_rfl) ?_)|(refine zAa (id:=4) zCb (by kernel_rfl) (by kernel_rfl) ?_)|(refine zAa (id:=6) zCb (by kernel_rfl) (by kernel_rfl) ?_)|(refine zAa (id:=16) zCb (by kernel_rfl) (by kernel_rfl) ?_)|refine zAp ?_ ?_|refine zAn rfl rfl rfl rfl rfl ?_ ?_|refine zAg ?_ ?_|exact Rech.nil|fail)
  all_goals (exact xdn ())
 have q3:decide (roomI n<bytes)=false:=decide_eq_false h3
 have c3:Ct Tryz.prog W 60 [.pointer (some ⟨p,0,none⟩)] [DiskP p D] (fun _:Unit=>.bool D.off) (fun _=>[DiskP p D]):=off_ct
 by_cases h4:D.off=true
 ·rw [show areaR D at_ n stamp bytes=([],12) from (if_neg h1).trans ((if_neg h2).trans ((if_neg hb).trans ((if_neg h3).trans (if_pos h4))))]
  rw [h4] at c3
  refine Ct.enter Tryz.func109 rfl Tryz.ntmps109 (by simp) (fun R=>?_)
  repeat' (first|(refine zAd ?_;first|(refine zAc xE c1 xP rfl (fun _=>?_))|(refine zAc xE c2 xP rfl (fun _=>?_))|(refine zAc xE c3 xP rfl (fun _=>?_)))|(refine zAm ?_;refine zAb (zAt rfl e12) ?_)|(refine zBg ?_;refine zAb (Ev_eqlI_f rfl rfl h2) ?_)|(refine zAq ?_;refine zAb (zAe rfl rfl qb) ?_)|(refine zBf ?_;refine zAb (zAk rfl rfl q3) ?_)|refine xst ?_|(refine xsa ?_;intro _)|(refine xsb ?_ ?_ <;>intro _<;>try (exfalso;omega))|refine xsc ?_|(refine zAa (id:=2) zCb (by kernel_rfl) (by kernel_rfl) ?_)|(refine zAa (id:=4) zCb (by kernel_rfl) (by kernel_rfl) ?_)|(refine zAa (id:=6) zCb (by kernel_rfl) (by kernel_rfl) ?_)|(refine zAa (id:=16) zCb (by kernel_rfl) (by kernel_rfl) ?_)|refine zAp ?_ ?_|refine zAn rfl rfl rfl rfl rfl ?_ ?_|refine zAg ?_ ?_|exact Rech.nil|fail)
  all_goals (exact xdn ())
 have h4':D.off=false:=by simpa using h4
 rw [h4'] at c3
 obtain ⟨S,hS⟩:∃ S,S=(sectorsI bytes).toNat:=⟨_,rfl⟩
 have hR:areaR D at_ n stamp bytes=arGo D at_ stamp bytes S 0 []:=by rw [hS];exact (if_neg h1).trans ((if_neg h2).trans ((if_neg hb).trans ((if_neg h3).trans (if_neg h4))))
 rw [hR]
 have hbr:bytes≤234*65536:=by unfold roomI at h3;omega
 have hSI:sectorsI bytes=(S:Int)∧S≤65536:=by
  unfold sectorsI at hS ⊢
  split at hS <;> rename_i hh
  ·rw [if_pos hh];omega
  ·rw [if_neg hh];omega
 have c5:Ct Tryz.prog W 141 [.int .i64 bytes] [] (fun _:Unit=>.int .i64 (S:Nat)) (fun _=>[]):=(sectors9_ct bytes (by omega)).val fun _=>by rw [hSI.1]
 obtain ⟨res,hres⟩:∃ res,res=arGo D at_ stamp bytes S 0 []:=⟨_,rfl⟩
 rw [← hres]
 have hat:0≤at_∧at_≤65536:=by
  unfold Dsk.mayB at h1'
  have:=of_decide_eq_true h1'
  omega
 clear hR hS
 refine Ct.enter Tryz.func109 rfl Tryz.ntmps109 (by simp) (fun R=>?_)
 repeat' (first|(refine zBc ?_;refine zAu rfl (fun gb=>KJ.row0 (e:=5) (sz:=1) ?_))|(refine zAd ?_;first|(refine zAc xE c1 xP rfl (fun _=>?_))|(refine zAc xE c2 xP rfl (fun _=>?_))|(refine zAc xE c3 xP rfl (fun _=>?_))|(refine zAc xE c5 xP rfl (fun _=>?_)))|(refine zBg ?_;refine zAb (Ev_eqlI_f rfl rfl h2) ?_)|(refine zAq ?_;refine zAb (zAe rfl rfl qb) ?_)|(refine zBf ?_;refine zAb (zAk rfl rfl q3) ?_)|refine xst ?_|(refine xsa ?_;intro _)|(refine xsb ?_ ?_ <;>intro _<;>try (exfalso;omega))|refine xsc ?_|(refine zAa (id:=2) zCb (by kernel_rfl) (by kernel_rfl) ?_)|(refine zAa (id:=4) zCb (by kernel_rfl) (by kernel_rfl) ?_)|(refine zAa (id:=6) zCb (by kernel_rfl) (by kernel_rfl) ?_)|(refine zAa (id:=16) zCb (by kernel_rfl) (by kernel_rfl) ?_)|refine zAp ?_ ?_|refine zAn rfl rfl rfl rfl rfl ?_ ?_|refine zAg ?_ ?_|exact Rech.nil|fail)
 rename_i gb _
 refine zBv (fun i:{s:Nat × List UInt8 × Value × Value//arGo D at_ stamp bytes (S-s.1) s.1 s.2.1=res∧s.1≤S∧s.2.1.length≤234*s.1∧((s.2.1=[]∧s.2.2.1=.pointer none∧s.2.2.2=.slice none 0 0)∨(s.2.1≠[]∧s.2.2.1=.pointer (some ⟨gb,0,none⟩)∧∃ g c,s.2.2.2=.slice (some ⟨g,0,none⟩) s.2.1.length c))}=>
  [(0,.pointer (some ⟨p,0,none⟩)),(1,.int .i64 at_),(3,.int .u64 stamp),(4,.int .i64 bytes),(12,.pointer (some ⟨gb,0,none⟩)),(41,.int .i64 (S:Nat)),(42,.int .i64 (i.1.1:Nat))])
  (fun i=>[DiskP p D,bldP gb i.1.2.2.1 i.1.2.2.2,rowP i.1.2.2.2 5 1 i.1.2.1.length (bvs i.1.2.1)]++R) (fun i=>S-i.1.1) ⟨(0,[],.pointer none,.slice none 0 0),hres.symm,by dsimp only;omega,by simp,.inl ⟨rfl,rfl,rfl⟩⟩ xB (xN) (fun ⟨(i,acc,q,v),hr,hi,hal,hqv⟩=>?_)
 dsimp only at hr hi hal hqv ⊢
 by_cases hlt:i<S
 ·have ql:decide ((i:Int)<(S:Int))=true:=decide_eq_true (by omega)
  obtain ⟨f,hf⟩:∃ f,S-i=f+1:=⟨S-i-1,by omega⟩
  have hf2:S-(i+1)=f:=by omega
  rw [hf] at hr
  have hunf:arGo D at_ stamp bytes (f+1) i acc=if D.readE (at_+i)≠0 then ([],D.readE (at_+i)) else
   match openS stamp (D.readS (at_+i)) with
   |none=>([],15)
   |some pc=>if (pc.length:Int)≠min (bytes-i*234) 234 then ([],15) else arGo D at_ stamp bytes f (i+1) (acc++pc):=rfl
  rw [hunf] at hr
  clear hunf
  have c6:=read_ct (W:=W) (p:=p) (D:=D) hE (at_+(i:Nat))
  have c7:=open_ct (W:=W) hN stamp (D.readS (at_+(i:Nat)))
  obtain ⟨raw,hraw⟩:∃ raw,raw=D.readS (at_+(i:Nat)):=⟨_,rfl⟩
  obtain ⟨e,he⟩:∃ e,e=D.readE (at_+(i:Nat)):=⟨_,rfl⟩
  rw [← hraw] at c6 c7 hr
  rw [← he] at c6 hr
  clear hraw he
  by_cases hz:e=0
  rotate_left
  ·rw [if_pos hz] at hr
   have hE2:errV E res.2=errV E e:=by rw [← hr]
   have hS2:strV res.1=strV []:=by rw [← hr]
   rw [hE2,hS2]
   obtain ⟨ea,hea⟩:=errV_ne (E:=E) hz
   rw [hea] at c6 ⊢
   repeat' (first|(refine zAd ?_;refine zAc xE c6 xP rfl (fun _=>?_))|(refine zAq ?_;refine zAb (zAe rfl rfl ql) ?_)|refine xst ?_|(refine xsa ?_;intro _)|(refine xsb ?_ ?_ <;>intro _<;>try (exfalso;omega))|refine xsc ?_|(refine zAa (id:=2) zCb (by kernel_rfl) (by kernel_rfl) ?_)|(refine zAa (id:=4) zCb (by kernel_rfl) (by kernel_rfl) ?_)|(refine zAa (id:=6) zCb (by kernel_rfl) (by kernel_rfl) ?_)|(refine zAa (id:=16) zCb (by kernel_rfl) (by kernel_rfl) ?_)|refine zAp ?_ ?_|refine zAn rfl rfl rfl rfl rfl ?_ ?_|refine zAg ?_ ?_|exact Rech.nil|fail)
   all_goals (exact xdn ())
  subst hz
  rw [if_neg (by simp)] at hr
  have c6':Ct Tryz.prog W 89 [.pointer (some ⟨p,0,none⟩),.int .i64 (at_+(i:Nat))] [DiskP p D] (fun _:Unit=>.tuple #[strV raw,.nilIface]) (fun _=>[DiskP p D]):=c6
  obtain ⟨o,ho⟩:∃ o,o=openS stamp raw:=⟨_,rfl⟩
  rw [← ho] at c7 hr
  clear ho
  cases o with
  |none=>
   have hE2:errV E res.2=errV E 15:=by rw [← hr]
   have hS2:strV res.1=strV []:=by rw [← hr]
   rw [hE2,hS2]
   have c7':Ct Tryz.prog W 131 [.int .u64 stamp,strV raw] [] (fun _:Unit=>.tuple #[strV [],.bool false]) (fun _=>[]):=c7
   repeat' (first|(refine zAd ?_;first|(refine zAc xE c6' xP rfl (fun _=>?_))|(refine zAc xE c7' xP rfl (fun _=>?_)))|(refine zAm ?_;refine zAb (zAt rfl e15) ?_)|(refine zAq ?_;refine zAb (zAe rfl rfl ql) ?_)|refine xst ?_|(refine xsa ?_;intro _)|(refine xsb ?_ ?_ <;>intro _<;>try (exfalso;omega))|refine xsc ?_|(refine zAa (id:=2) zCb (by kernel_rfl) (by kernel_rfl) ?_)|(refine zAa (id:=4) zCb (by kernel_rfl) (by kernel_rfl) ?_)|(refine zAa (id:=6) zCb (by kernel_rfl) (by kernel_rfl) ?_)|(refine zAa (id:=16) zCb (by kernel_rfl) (by kernel_rfl) ?_)|refine zAp ?_ ?_|refine zAn rfl rfl rfl rfl rfl ?_ ?_|refine zAg ?_ ?_|exact Rech.nil|fail)
   all_goals (exact xdn ())
  |some pc=>
   dsimp only at hr
   have c7':Ct Tryz.prog W 131 [.int .u64 stamp,strV raw] [] (fun _:Unit=>.tuple #[strV pc,.bool true]) (fun _=>[]):=c7
   obtain ⟨m,hm⟩:∃ m,m=min (bytes-(i:Int)*234) 234:=⟨_,rfl⟩
   rw [← hm] at hr
   by_cases hl:(pc.length:Int)=m
   rotate_left
   ·rw [if_pos hl] at hr
    have hE2:errV E res.2=errV E 15:=by rw [← hr]
    have hS2:strV res.1=strV []:=by rw [← hr]
    rw [hE2,hS2]
    repeat' (first|(refine zAd ?_;first|(refine zAc xE c6' xP rfl (fun _=>?_))|(refine zAc xE c7' xP rfl (fun _=>?_)))|(refine zAm ?_;refine zAb (zAt rfl e15) ?_)|(refine ek_min ?_;refine zAb (Ev_min_v rfl rfl hm.symm) ?_)|(refine zBz ?_;refine zAb (Ev_neqI_t rfl rfl hl) ?_)|(refine zAq ?_;refine zAb (zAe rfl rfl ql) ?_)|refine xst ?_|(refine xsa ?_;intro _)|(refine xsb ?_ ?_ <;>intro _<;>try (exfalso;omega))|refine xsc ?_|(refine zAa (id:=2) zCb (by kernel_rfl) (by kernel_rfl) ?_)|(refine zAa (id:=4) zCb (by kernel_rfl) (by kernel_rfl) ?_)|(refine zAa (id:=6) zCb (by kernel_rfl) (by kernel_rfl) ?_)|(refine zAa (id:=16) zCb (by kernel_rfl) (by kernel_rfl) ?_)|refine zAp ?_ ?_|refine zAn rfl rfl rfl rfl rfl ?_ ?_|refine zAg ?_ ?_|exact Rech.nil|fail)
    all_goals (exact xdn ())
   rw [if_neg (by simpa using hl)] at hr
   have hS1:234*(i:Int)<bytes:=by
    have h:=hSI.1
    unfold sectorsI at h
    split at h <;> omega
   have hpc:pc≠[]:=by
    rintro rfl
    simp at hl
    omega
   have hap:acc++pc≠[]:=by simp [hpc]
   have c8:Ct Tryz.prog W 142 [.pointer (some ⟨gb,0,none⟩),strV pc] [bldP gb q v,rowP v 5 1 acc.length (bvs acc)] (fun _:Nat × Nat=>.tuple #[.int .i64 pc.length,.nilIface])
    (fun x=>[bldP gb (.pointer (some ⟨gb,0,none⟩)) (.slice (some ⟨x.1,0,none⟩) (acc.length+pc.length) x.2),rowP (.slice (some ⟨x.1,0,none⟩) (acc.length+pc.length) x.2) 5 1 (acc.length+pc.length) (bvs acc++bvs pc)]):=
    writeString_ct q (by rcases hqv with ⟨_,h,_⟩|⟨_,h,_⟩ <;> simp [h]) v acc pc hpc (by omega)
   repeat' (first|(refine zAd ?_;first|(refine zAc xE c6' xP rfl (fun _=>?_))|(refine zAc xE c7' xP rfl (fun _=>?_))|(refine zAc xE c8 xP rfl (fun x=>?_)))|(refine ek_min ?_;refine zAb (Ev_min_v rfl rfl hm.symm) ?_)|(refine zBz ?_;refine zAb (zCh rfl rfl hl) ?_)|(refine zAq ?_;refine zAb (zAe rfl rfl ql) ?_)|refine xst ?_|(refine xsa ?_;intro _)|(refine xsb ?_ ?_ <;>intro _<;>try (exfalso;omega))|refine xsc ?_|(refine zAa (id:=2) zCb (by kernel_rfl) (by kernel_rfl) ?_)|(refine zAa (id:=4) zCb (by kernel_rfl) (by kernel_rfl) ?_)|(refine zAa (id:=6) zCb (by kernel_rfl) (by kernel_rfl) ?_)|(refine zAa (id:=16) zCb (by kernel_rfl) (by kernel_rfl) ?_)|refine zAp ?_ ?_|refine zAn rfl rfl rfl rfl rfl ?_ ?_|refine zAg ?_ ?_|exact Rech.nil|fail)
   rename_i x
   refine zAv ⟨(i+1,acc++pc,.pointer (some ⟨gb,0,none⟩),.slice (some ⟨x.1,0,none⟩) (acc.length+pc.length) x.2),by dsimp only;rw [hf2];exact hr,by dsimp only;omega,by dsimp only;rw [List.length_append];omega,.inr ⟨hap,rfl,x.1,x.2,by rw [List.length_append]⟩⟩ (by show S-(i+1)<S-i;omega) xB ?_
   have ebv:bvs acc++bvs pc=bvs (acc++pc):=by simp [bvs]
   have eln:acc.length+pc.length=(acc++pc).length:=by simp
   dsimp only
   rw [ebv,eln]
   exact (xN)
 ·have hiS:i=S:=by omega
  subst hiS
  have ql:decide ((i:Int)<(i:Int))=false:=decide_eq_false (by omega)
  rw [Nat.sub_self] at hr
  have hE2:errV E res.2=.nilIface:=by rw [← hr];rfl
  have hS2:strV res.1=strV acc:=by rw [← hr];rfl
  rw [hE2,hS2]
  rcases hqv with ⟨rfl,rfl,rfl⟩|⟨hne,rfl,g,c,rfl⟩
  ·have c6:=string_nil (W:=W) (b:=gb) (.pointer none)
   repeat' (first|(refine zAd ?_;refine zAc xE c6 xP rfl (fun _=>?_))|(refine zAq ?_;refine zAb (zAe rfl rfl ql) ?_)|refine xst ?_|(refine xsa ?_;intro _)|(refine xsb ?_ ?_ <;>intro _<;>try (exfalso;omega))|refine xsc ?_|(refine zAa (id:=2) zCb (by kernel_rfl) (by kernel_rfl) ?_)|(refine zAa (id:=4) zCb (by kernel_rfl) (by kernel_rfl) ?_)|(refine zAa (id:=6) zCb (by kernel_rfl) (by kernel_rfl) ?_)|(refine zAa (id:=16) zCb (by kernel_rfl) (by kernel_rfl) ?_)|refine zAp ?_ ?_|refine zAn rfl rfl rfl rfl rfl ?_ ?_|refine zAg ?_ ?_|exact Rech.nil|fail)
   all_goals (exact xdn ())
  ·have c6:=string_ct (W:=W) (b:=gb) (.pointer (some ⟨gb,0,none⟩)) g c acc hne (by omega)
   repeat' (first|(refine zAd ?_;refine zAc xE c6 xP rfl (fun _=>?_))|(refine zAq ?_;refine zAb (zAe rfl rfl ql) ?_)|refine xst ?_|(refine xsa ?_;intro _)|(refine xsb ?_ ?_ <;>intro _<;>try (exfalso;omega))|refine xsc ?_|(refine zAa (id:=2) zCb (by kernel_rfl) (by kernel_rfl) ?_)|(refine zAa (id:=4) zCb (by kernel_rfl) (by kernel_rfl) ?_)|(refine zAa (id:=6) zCb (by kernel_rfl) (by kernel_rfl) ?_)|(refine zAa (id:=16) zCb (by kernel_rfl) (by kernel_rfl) ?_)|refine zAp ?_ ?_|refine zAn rfl rfl rfl rfl rfl ?_ ?_|refine zAg ?_ ?_|exact Rech.nil|fail)
   all_goals (exact xdn ())
end
end Go.Proofs.YtgipenahkmbelaaGreatDoor
