/-
  TxN7, TxN5, TxN6, TxNA.
-/
import Derived.Test.YtgipenahkmbelaaGreatDoorTFM
import Derived.Test.YtgipenahkmbelaaGreatDoorTGD
import Derived.Test.YtgipenahkmbelaaGreatDoorTGB
import Derived.Test.YtgipenahkmbelaaGreatDoorTFL
import Derived.Test.YtgipenahkmbelaaGreatDoorTBD
set_option maxHeartbeats 64000000
namespace Go.Proofs.YtgipenahkmbelaaGreatDoor
open Go Go.RowKit
abbrev plTGI0:Pl:=(.op 0 (.op 1 (.op 2 (.op 3 (.op 4 (.op 5 (.op 6 (.op 7 (.op 8 (.op 9 (.op 10 (.op 11 (.op 12 (.op 13 (.ef 14 [5,4,3,2,1,0] (.ef 15 [] (.op 16 .nil)))))))))))))))))
abbrev plTGI1:Pl:=(.op 0 (.op 1 (.op 2 (.op 3 (.op 4 (.op 7 (.op 8 (.op 9 (.op 10 (.op 11 (.op 12 (.op 13 (.op 14 (.ef 5 [14,13,12,11,10,9,8,7,2,1,0] (.op 6 (.ef 15 [6,12,11,10,9,8,7,2,1,0] (.ef 16 [6,2,1,0] (.ef 17 [] (.op 18 .nil)))))))))))))))))))
abbrev plTGI2:Pl:=(.op 0 (.op 1 (.op 2 (.op 3 (.op 4 (.op 5 (.op 6 (.op 7 (.op 8 (.op 9 (.ef 10 [3,2,1,0] (.ef 11 [] (.op 12 .nil)))))))))))))
abbrev plTGI3:Pl:=(.op 0 (.op 1 (.op 2 (.op 3 (.op 4 (.op 5 (.ef 6 [] (.op 7 (.op 8 (.op 9 (.op 10 (.op 11 .nil))))))))))))
abbrev plTGI4:Pl:=(.op 0 (.op 1 (.op 2 (.op 3 (.op 5 (.op 6 (.ef 4 [6,5] (.ef 7 [] (.op 8 (.op 9 (.op 10 (.op 11 (.op 12 .nil)))))))))))))
abbrev plTGI5:Pl:=(.op 0 (.op 1 (.op 2 (.op 3 (.op 4 (.op 5 (.op 6 (.op 7 (.op 8 (.op 9 (.op 11 (.op 12 (.ef 10 [12,11,1,0] (.op 13 (.ef 14 [] .nil)))))))))))))))
abbrev plTGI6:Pl:=(.op 0 (.op 1 (.op 2 (.op 3 (.op 4 (.op 5 (.op 7 (.op 8 (.op 9 (.op 10 (.op 12 (.op 13 (.ef 6 [13,12,10,9,8,7,1,0] (.ef 11 [13,12,1,0] (.op 14 (.ef 15 [] .nil))))))))))))))))
abbrev plTGI7:Pl:=(.op 0 (.op 1 (.op 2 (.op 3 (.op 4 (.op 5 (.op 6 (.op 7 (.op 8 (.op 9 (.op 10 (.op 11 (.op 12 (.op 13 (.op 14 (.op 15 (.op 16 (.op 17 (.op 18 (.op 19 (.op 20 (.op 21 (.ef 22 [] (.op 23 (.op 24 .nil)))))))))))))))))))))))))
abbrev plTGI8:Pl:=(.op 0 (.op 1 (.op 2 (.op 3 (.op 5 (.op 6 (.op 7 (.op 8 (.ef 4 [8,7,6,5] (.ef 9 [] (.ef 10 [] (.op 11 .nil))))))))))))
abbrev plTGI9:Pl:=(.op 0 (.op 1 (.op 2 (.op 3 (.op 5 (.op 6 (.op 7 (.op 8 (.ef 4 [8,7,6,5] (.ef 9 [] (.op 10 (.op 11 .nil))))))))))))
abbrev plTGI10:Pl:=(.op 0 (.op 1 (.op 2 (.op 3 (.op 5 (.op 6 (.op 7 (.op 8 (.op 9 (.op 10 (.ef 4 [10,9,8,7,6,5] (.ef 11 [] (.op 12 .nil)))))))))))))
structure ItX where
 kind:Nat
 x:Nat × Nat × Nat
 a:Option Addr
 lo:List UInt8
 hi:List UInt8
 rows:Rows
 ra:Option Addr
 rc:Nat
def ItX.q (i:ItX):Value:=match i.kind with|0=>.nilFunc|1=>rngN|_=>rngV i.x
abbrev ItX.r (i:ItX):Value:=.slice i.ra i.rows.length i.rc
def itL (i:ItX):List SP:=match i.kind with|0=>[]|1=>[]|_=>rngP i.x i.a i.lo i.hi
def itP (key:Nat) (i:ItX):SP:=allP key (roP (i.ra,i.rc) i.rows::itL i)
def itNo:ItX:=⟨0,(0,0,0),none,[],[],[],none,0⟩
structure ItOk (M:List Nd) (i:ItX):Prop where
 len:i.rows.length≤2000000
 one:i.kind=1→i.rows=[]
 two:2≤i.kind→RgN M i.a i.lo i.hi i.rows
theorem ItOk.mono {M N:List Nd} {i:ItX} (h:ItOk M i) (hs:∀ y ∈ M,y ∈ N):ItOk N i:=⟨h.len,h.one,fun q=>(h.two q).mono hs⟩
theorem ItOk.no (M:List Nd):ItOk M itNo:=⟨Nat.zero_le _,(fun h=>by cases h),fun h=>absurd h (by decide)⟩
structure PlX where
 t:Nat
 M:List Nd
 BP:SP
 ba:Option Addr
 bc:Nat
 sa:Option Addr
 sc:Nat
 l:Rows
 st:List BOp
 ended:Bool
 m:Nat
 k:Nat
 i0:ItX
 i1:ItX
structure PlOk (W:World) (n:Nat) (x:PlX):Prop where
 lv:Lv W rC 2 x.BP x.ba x.l
 sl:SlOk x.ba x.bc x.l.length
 pl:PlI x.l x.st x.ended n
 mn:x.m≤n
 kn:x.k≤2+n
 it0:ItOk x.M x.i0
 it1:ItOk x.M x.i1
def txX (s:Nat) (x:PlX):SP:=match x.ended with|true=>TxE x.M x.t s|false=>TxBM x.M x.t s x.l (hisB x.l x.st) (zAf x.l x.st) x.m
abbrev plL (w s:Nat) (x:PlX):List SP:=[wP w s x.t x.ba x.l.length x.bc x.sa x.st.length x.sc x.ended x.i0.q x.i1.q x.i0.r x.i1.r,txX s x,StQ s 400 x.k x.l,x.BP,opP (x.sa,x.sc) x.st,itP 98 x.i0,itP 99 x.i1]
def PlP (W:World) (w s n:Nat):SP:=packP 97 w (fun x:{x:PlX//PlOk W n x}=>plL w s x.1)
section
variable {W:World} {F:Nat→Addr} {w s n:Nat}
theorem pl_in {x:PlX} (hx:PlOk W n x) {R:List SP}:∀ g,zAj (plL w s x++R) g→zAj (PlP W w s n::R) g:=fun g q=>
 pack_star (F:=fun x:{x:PlX//PlOk W n x}=>plL w s x.1) ⟨x,hx⟩ g q
theorem Ct.re {P:Program} {f:FuncId} {args:List Value} {A A' B':List SP} {X:Type} {r:X→Value} {v:Value} {B:X→List SP} (h:Ct P W f args A r B) (pre:∀ R g,zAj (A'++R) g→zAj (A++R) g) (hr:∀ x,r x=v) (post:∀ x R g,zAj (B x++R) g→zAj (B'++R) g):Ct P W f args A' (fun _:Unit=>v) (fun _=>B'):=
 (h.conv pre (fun _ _ _ q=>q)).to (fun _=>()) hr post
end
end Go.Proofs.YtgipenahkmbelaaGreatDoor
namespace Go.Proofs.YtgipenahkmbelaaGreatDoor
open Go Go.RowKit
theorem RgN.out {M:List Nd} {a:Option Addr} {lo hi:List UInt8} {l:Rows} (h:RgN M a lo hi l):∃ (tr:Tr) (m:Nat),RgOk M a tr lo hi m∧m=l.length∧∀ i p,(tr.frm lo)[i]? = some p→i<m→l[i]? = some p:=by
 obtain ⟨tr,r,h1,h2,h3,h4⟩:=h
 refine ⟨tr,_,h1,?_,fun i p hp hi=>?_⟩
 ·rw [h4,rangeR_take h3,List.length_take,Nat.min_eq_left (visN_le ..)]
 ·rw [h4,rangeR_take h3,List.getElem?_take_of_lt hi,← h2]
  exact hp
theorem filter_next {p:List UInt8 × List UInt8→Bool} {l:Rows} {i:Nat} {x:List UInt8 × List UInt8} (h:l[i]? = some x):(l.take (i+1)).filter p=(l.take i).filter p++(if p x=true then [x] else []):=by
 rw [List.take_add_one,h,List.filter_append]
 cases hp:p x <;> simp [hp]
theorem Ev_neqFn14 {P:Program} {W:World} {n:Nat} {E:Env} {H:List SP} {t u:TypeId} {x y:Operand} {f:Fn} {us vs:Array Value} {ps rs:Array TypeId} {vr:Bool} (hx:Env.ev E x=some (.func f us vs)) (hy:Env.ev E y=some .nilFunc) [hu:UIs P t (.func ps rs vr)]:Ev P W n E H (.binOp .neq t x y u) (.bool true):=by
 refine Ev_bin hx hy (fun w=>?_) (fun w=>?_)
 ·cases x <;> cases y <;> simp [eqGuard]
 ·have e:(Op.equal t (.func f us vs) .nilFunc).run P w=.ok false w:=by
   unfold Op.equal Op.maxDepth
   have key:∀ m,(Op.equalIn (m+1) t (.func f us vs) .nilFunc).run P w=.ok false w:=by
    intro m
    simp [Op.equalIn,run_underlying hu.h]
   exact key 9999
  simp [binOp,e,Result.andThen]
theorem Ev_eqlNilFn14 {P:Program} {W:World} {n:Nat} {E:Env} {H:List SP} {t u:TypeId} {x y:Operand} {ps rs:Array TypeId} {vr:Bool} (hx:Env.ev E x=some .nilFunc) (hy:Env.ev E y=some .nilFunc) [hu:UIs P t (.func ps rs vr)]:Ev P W n E H (.binOp .eql t x y u) (.bool true):=by
 refine Ev_bin hx hy (fun w=>?_) (fun w=>?_)
 ·cases x <;> cases y <;> simp [eqGuard]
 ·have e:(Op.equal t .nilFunc .nilFunc).run P w=.ok true w:=by
   unfold Op.equal Op.maxDepth
   have key:∀ m,(Op.equalIn (m+1) t .nilFunc .nilFunc).run P w=.ok true w:=by
    intro m
    simp [Op.equalIn,run_underlying hu.h]
   exact key 9999
  simp [binOp,e,Result.andThen]
def noughtsB (n:Int):List UInt8:=List.replicate (max 0 (min n 40000)).toNat 0
theorem noughtsB_len (n:Int):(noughtsB n).length≤40000:=by
 unfold noughtsB
 rw [List.length_replicate]
 omega
section
variable {W:World} {A B:SP} {ba sa:Option Addr} {bc sc:Nat} {l:Rows}
instance fn_over14:FnIs Tryz.prog 24:=⟨by kernel_rfl⟩
instance fn_efrom:FnIs Tryz.prog 50:=⟨by kernel_rfl⟩
instance fn_erange:FnIs Tryz.prog 23:=⟨by kernel_rfl⟩
instance fn_noughts:FnIs Tryz.prog 19:=⟨by kernel_rfl⟩
theorem noughts_ct (n:Int) (hn:-9223372036854775808≤n∧n≤9223372036854775807):Ct Tryz.prog W 19 [.int .i64 n] [] (fun _:Unit=>strV (noughtsB n)) (fun _=>[]):=by
 obtain ⟨m,hm⟩:∃ m:Nat,max 0 (min n 40000)=(m:Int):=⟨(max 0 (min n 40000)).toNat,by omega⟩
 have hm2:m≤40000:=by omega
 have e:noughtsB n=List.replicate m 0:=by unfold noughtsB;rw [hm];rfl
 rw [e]
 have hl:(List.replicate m (0:UInt8)).length=m:=List.length_replicate
 clear e
 refine Ct.enter Tryz.func19 rfl Tryz.ntmps19 (by simp) (fun R=>?_)
 repeat' (first|(refine is_mkSlice ?_;refine KJ_makeBytes (m:=m) rfl rfl rfl (by omega) rfl (fun g=>?_))|(refine zBu ?_;refine zAb (Ev_bytesAll rfl xS hl) ?_)|(refine ek_max ?_;refine zAb (Ev_max_w rfl rfl hm) ?_)|refine xst ?_|(refine xsa ?_;intro _)|(refine xsb ?_ ?_ <;>intro _<;>try (exfalso;omega))|refine xsc ?_|fail)
 all_goals (exact xdn ())
theorem efrom_ct (hA:Lv W rC 2 A ba l) (hl:l.length≤1000000000) (lo:List UInt8) :
 Ct Tryz.prog W 50 [tblV ba l.length bc,strV lo] [A] (fun x:Option Addr × Nat=>.slice x.1 (fromR lo l).length x.2) (fun x=>[A,roP x (fromR lo l)]):=by
 unfold fromR
 refine Ct.enter Tryz.func50 rfl Tryz.ntmps50 (by simp) (fun R=>?_)
 repeat' (first|(refine zBe ?_;refine zBb rfl xF rfl (fun g2=>?_))|(refine zBi ?_;refine KJ_bslice0 rfl (fun g0=>?_))|refine xst ?_|(refine xsa ?_;intro _)|(refine xsb ?_ ?_ <;>intro _<;>try (exfalso;omega))|refine xsc ?_|fail)
 refine zBv (fun x:{x:Nat × Option Addr × Nat//x.1≤l.length}=>[(1,strV lo),(2,.pointer (some ⟨g2,0,none⟩)),(5,.slice x.1.2.1 ((l.take x.1.1).filter (fun p=>!Op.bytesLess p.1 lo)).length x.1.2.2),(10,.slice ba l.length bc),(11,.int .i64 (l.length:Nat)),(12,.int .i64 (x.1.1:Nat))])
  (fun x=>[A,zAh g2 [.slice ba l.length bc] 51,roP x.1.2 ((l.take x.1.1).filter (fun p=>!Op.bytesLess p.1 lo))]++R) (fun x=>l.length-x.1.1) ⟨(0,some ⟨g0,0,none⟩,0),Nat.zero_le _⟩ xB (xN) (fun ⟨(i,ya,yc),hi'⟩=>?_)
 dsimp only at hi' ⊢
 by_cases hlt:i<l.length
 rotate_left
 ·have ql:decide ((i:Int)<(l.length:Nat))=false:=decide_eq_false (by omega)
  obtain rfl:i=l.length:=by omega
  rw [List.take_length]
  repeat' (first|(refine zAq ?_;refine zAb (zAe rfl rfl ql) ?_)|refine xst ?_|(refine xsa ?_;intro _)|(refine xsb ?_ ?_ <;>intro _<;>try (exfalso;omega))|refine xsc ?_|fail)
  all_goals (exact xdn (ya,yc))
 have ql:decide ((i:Int)<(l.length:Nat))=true:=decide_eq_true (by omega)
 obtain ⟨x,hx⟩:∃ s,l[i]? = some s:=⟨_,List.getElem?_eq_getElem hlt⟩
 have hnx:=filter_next (p:=(fun p=>!Op.bytesLess p.1 lo)) hx
 have hle2:(l.take i).length≤i:=List.length_take_le ..
 have hle:((l.take i).filter (fun p=>!Op.bytesLess p.1 lo)).length≤(l.take i).length:=List.length_filter_le ..
 refine KJ.lvSome hA xS (by omega) (fun bb oa hab=>?_)
 have ho1:oa+Int.toNat (i:Int)*2=oa+i*2:=by rw [Int.toNat_natCast]
 subst hab
 obtain ⟨T,hT⟩:∃ T,T=(l.take i).filter (fun p=>!Op.bytesLess p.1 lo):=⟨_,rfl⟩
 rw [← hT] at hnx hle ⊢
 have m1:(T.length+1)*32≤140737488355328:=by omega
 have m2:T.length+1≤9223372036854775807:=by omega
 cases hq:(!Op.bytesLess x.1 lo) with
 |false=>
  rw [hq,if_neg (by decide),List.append_nil] at hnx
  repeat' (first|(refine zBc ?_;refine zAu rfl (fun g=>?_))|(refine zAm ?_;refine zAb (zBn zCc hA rfl rfl xS ho1 hx) ?_)|(refine zBh ?_;refine zAb (zAi (r:=((i+1:Nat):Int)) rfl rfl (by omega) (by omega)) ?_)|(refine zAq ?_;refine zAb (zAe rfl rfl ql) ?_)|(refine ek_geq ?_;refine zAb (Ev_geqS_q rfl rfl hq) ?_)|refine xst ?_|(refine xsa ?_;intro _)|(refine xsb ?_ ?_ <;>intro _<;>try (exfalso;omega))|refine xsc ?_|fail)
  all_goals refine zAv ⟨(i+1,ya,yc),hlt⟩ (by show l.length-(i+1)<l.length-i;omega) (by rw [hnx];exact xB) (by rw [hnx];exact (xN))
 |true=>
  rw [hq,if_pos rfl] at hnx
  repeat' (first|(refine zBc ?_;refine zAu rfl (fun g=>?_))|(refine zBq ?_;refine zCe (l:=T) (a:=x) zCc rfl rfl rfl xS xS m1 m2 rfl (fun g' c'=>?_))|(refine zBi ?_;refine zBt rfl xF (by rfl) (by omega) rfl (fun gb=>?_);show KJ W _ _ _ (zAh gb (rC x) 36::_))|(refine zAm ?_;refine zAb (zBn zCc hA rfl rfl xS ho1 hx) ?_)|(refine zBh ?_;refine zAb (zAi (r:=((i+1:Nat):Int)) rfl rfl (by omega) (by omega)) ?_)|(refine zAq ?_;refine zAb (zAe rfl rfl ql) ?_)|(refine ek_geq ?_;refine zAb (Ev_geqS_q rfl rfl hq) ?_)|refine xst ?_|(refine xsa ?_;intro _)|(refine xsb ?_ ?_ <;>intro _<;>try (exfalso;omega))|refine xsc ?_|fail)
  all_goals refine zAv ⟨(i+1,some ⟨g',0,none⟩,c'),hlt⟩ (by show l.length-(i+1)<l.length-i;omega) (by rw [hnx];exact xB) (by rw [hnx];exact (xN))
theorem erange_ct (hA:Lv W rC 2 A ba l) (hl:l.length≤1000000000) (lo hi:List UInt8) :
 Ct Tryz.prog W 23 [tblV ba l.length bc,strV lo,strV hi] [A] (fun x:Option Addr × Nat=>.slice x.1 (zBw lo hi l).length x.2) (fun x=>[A,roP x (zBw lo hi l)]):=by
 have cF:=efrom_ct (W:=W) (bc:=bc) hA hl lo
 have hml:(fromR lo l).length≤l.length:=List.length_filter_le ..
 unfold zBw
 obtain ⟨m,hm⟩:∃ m,m=fromR lo l:=⟨_,rfl⟩
 rw [← hm] at cF hml ⊢
 clear hm
 refine Ct.enter Tryz.func23 rfl Tryz.ntmps23 (by simp) (fun R=>?_)
 repeat' (first|(refine zBe ?_;refine zBb rfl xF rfl (fun g3=>?_))|(refine zAd ?_;refine zAc xE cF xP rfl (fun z=>?_);obtain ⟨xa,xc⟩:=z)|(refine zBi ?_;refine KJ_bslice0 rfl (fun g0=>?_))|refine xst ?_|(refine xsa ?_;intro _)|(refine xsb ?_ ?_ <;>intro _<;>try (exfalso;omega))|refine xsc ?_|fail)
 have hB:Lv W rC 2 (roP (xa,xc) m) xa m:=Lv.own (e:=36) (c:=xc) zCc rfl
 refine zBv (fun x:{x:Nat × Option Addr × Nat//x.1≤m.length}=>[(1,strV lo),(2,strV hi),(3,.pointer (some ⟨g3,0,none⟩)),(7,.slice x.1.2.1 ((m.take x.1.1).filter (fun p=>Op.bytesLess p.1 hi)).length x.1.2.2),(13,.slice xa m.length xc),(14,.int .i64 (m.length:Nat)),(15,.int .i64 (x.1.1:Nat))])
  (fun x=>[A,roP (xa,xc) m,zAh g3 [.slice ba l.length bc] 51,roP x.1.2 ((m.take x.1.1).filter (fun p=>Op.bytesLess p.1 hi))]++R) (fun x=>m.length-x.1.1) ⟨(0,some ⟨g0,0,none⟩,0),Nat.zero_le _⟩ xB (xN) (fun ⟨(i,ya,yc),hi'⟩=>?_)
 dsimp only at hi' ⊢
 by_cases hlt:i<m.length
 rotate_left
 ·have ql:decide ((i:Int)<(m.length:Nat))=false:=decide_eq_false (by omega)
  obtain rfl:i=m.length:=by omega
  rw [List.take_length]
  repeat' (first|(refine zAq ?_;refine zAb (zAe rfl rfl ql) ?_)|refine xst ?_|(refine xsa ?_;intro _)|(refine xsb ?_ ?_ <;>intro _<;>try (exfalso;omega))|refine xsc ?_|fail)
  all_goals (exact xdn (ya,yc))
 have ql:decide ((i:Int)<(m.length:Nat))=true:=decide_eq_true (by omega)
 obtain ⟨x,hx⟩:∃ s,m[i]? = some s:=⟨_,List.getElem?_eq_getElem hlt⟩
 have hnx:=filter_next (p:=(fun p=>Op.bytesLess p.1 hi)) hx
 have hle2:(m.take i).length≤i:=List.length_take_le ..
 have hle:((m.take i).filter (fun p=>Op.bytesLess p.1 hi)).length≤(m.take i).length:=List.length_filter_le ..
 refine KJ.lvSome hB xS (by omega) (fun bb oa hab=>?_)
 have ho1:oa+Int.toNat (i:Int)*2=oa+i*2:=by rw [Int.toNat_natCast]
 subst hab
 obtain ⟨T,hT⟩:∃ T,T=(m.take i).filter (fun p=>Op.bytesLess p.1 hi):=⟨_,rfl⟩
 rw [← hT] at hnx hle ⊢
 have m1:(T.length+1)*32≤140737488355328:=by omega
 have m2:T.length+1≤9223372036854775807:=by omega
 cases hq:(Op.bytesLess x.1 hi) with
 |false=>
  rw [hq,if_neg (by decide),List.append_nil] at hnx
  repeat' (first|(refine zBc ?_;refine zAu rfl (fun g=>?_))|(refine zAm ?_;refine zAb (zBn zCc hB rfl rfl xS ho1 hx) ?_)|(refine zBh ?_;refine zAb (zAi (r:=((i+1:Nat):Int)) rfl rfl (by omega) (by omega)) ?_)|(refine zAq ?_;first|refine zAb (Ev_lssS_q rfl rfl hq) ?_|refine zAb (zAe rfl rfl ql) ?_)|refine xst ?_|(refine xsa ?_;intro _)|(refine xsb ?_ ?_ <;>intro _<;>try (exfalso;omega))|refine xsc ?_|fail)
  all_goals refine zAv ⟨(i+1,ya,yc),hlt⟩ (by show m.length-(i+1)<m.length-i;omega) (by rw [hnx];exact xB) (by rw [hnx];exact (xN))
 |true=>
  rw [hq,if_pos rfl] at hnx
  repeat' (first|(refine zBc ?_;refine zAu rfl (fun g=>?_))|(refine zBq ?_;refine zCe (l:=T) (a:=x) zCc rfl rfl rfl xS xS m1 m2 rfl (fun g' c'=>?_))|(refine zBi ?_;refine zBt rfl xF (by rfl) (by omega) rfl (fun gb=>?_);show KJ W _ _ _ (zAh gb (rC x) 36::_))|(refine zAm ?_;refine zAb (zBn zCc hB rfl rfl xS ho1 hx) ?_)|(refine zBh ?_;refine zAb (zAi (r:=((i+1:Nat):Int)) rfl rfl (by omega) (by omega)) ?_)|(refine zAq ?_;first|refine zAb (Ev_lssS_q rfl rfl hq) ?_|refine zAb (zAe rfl rfl ql) ?_)|refine xst ?_|(refine xsa ?_;intro _)|(refine xsb ?_ ?_ <;>intro _<;>try (exfalso;omega))|refine xsc ?_|fail)
  all_goals refine zAv ⟨(i+1,some ⟨g',0,none⟩,c'),hlt⟩ (by show m.length-(i+1)<m.length-i;omega) (by rw [hnx];exact xB) (by rw [hnx];exact (xN))
end
end Go.Proofs.YtgipenahkmbelaaGreatDoor
namespace Go.Proofs.YtgipenahkmbelaaGreatDoor
open Go Go.RowKit
section
variable {W:World} {F:Nat→Addr} {T T1 T' Q Q' BP:SP} {w s t:Nat} {ba sa:Option Addr} {bn sn bc sc:Nat} {e:Bool} {l:Rows} {st:List BOp} {q0 q1 r0 r1:Value}
variable {P0:SP} {Z:Type}
theorem drange14_0 (o:TOp) (hk:o.kind=5) (hi:o.i % 2=0)
 (hA:Lv W rC 2 BP ba l) (hs:SlOk ba bc l.length) (hr:RisR l) (hl:l.length≤100000000) (hS:st.length≤100000000) {xz:Z→Nat × Nat × Nat} {TZ EZ:Z→SP} (rr:Rows) (hrr:rr=(zBw o.key o.val (zAf l st)))
 (cR:Ct Tryz.prog W 22 [.pointer (some ⟨t,0,none⟩),strV o.key,strV o.val] [T] (fun z:Z=>rngV (xz z)) (fun z=>[TZ z,EZ z])) :
 Ct Tryz.prog W 8 [.pointer (some ⟨w,0,none⟩),.agg (topC o).toArray] [wP w s t ba l.length bc sa st.length sc false q0 q1 r0 r1,T,BP,opP (sa,sc) st] (fun _:Z × Option Addr × Nat=>.bool true)
  (fun z=>[wP w s t ba l.length bc sa st.length sc false (rngV (xz z.1)) q1 (.slice z.2.1 rr.length z.2.2) r1,TZ z.1,EZ z.1,BP,opP (sa,sc) st,roP z.2 rr]):=by
 obtain ⟨B,hB⟩:∃ B,IntKind.u64.wrap o.i=B:=⟨_,rfl⟩
 have hBb:0≤B∧B<18446744073709551616:=by
  have e:IntKind.u64.wrap o.i=o.i % 18446744073709551616:=rfl
  omega
 have hp:B % 2=0:=by
  have e:IntKind.u64.wrap o.i=o.i % 18446744073709551616:=rfl
  omega
 have hC:IntKind.i64.wrap 0=0:=rfl
 have cS:=sees14_ct (W:=W) (B:=opP (sa,sc) st) (sc:=sc) hA (Lv.own (e:=49) (c:=sc) zCa rfl) hs hr hl hS
 have hrl:=applyB_len st l
 have cZ:=fun (Y:SP) (za:Option Addr) (zc:Nat) (hL:Lv W rC 2 (allP 94 [BP,Y]) za (zAf l st))=>erange_ct (W:=W) (A:=allP 94 [BP,Y]) (ba:=za) (bc:=zc) (l:=zAf l st) hL (by omega) o.key o.val
 rw [← hrr] at cZ
 clear hrr
 obtain ⟨okind,okey,oval,on_,oi⟩:=o
 dsimp only at *
 subst hk
 unfold topC
 dsimp only
 refine Ct.enter Tryz.func8 rfl Tryz.ntmps8 (by simp) (fun R=>?_)
 repeat' (first|(refine zBe ?_;refine zBb rfl xF rfl (fun g3=>?_))|(refine zAd ?_;first|(refine zAc xE (cZ _ _ _ hzL) xP rfl (fun y=>?_);obtain ⟨ya,yc⟩:=y)|(refine zAc xE cS xP rfl (fun z=>?_);obtain ⟨⟨Y,za,zc⟩,hzL,hzs⟩:=z;dsimp only at hzL hzs ⊢)|(refine zAc xE cR xP rfl (fun z0=>?_)))|(refine zBu ?_;first|refine zAb (zAw rfl hC) ?_|refine zAb (zAw rfl hB) ?_)|(refine zAy ?_;refine zAb (zAz xV xW) ?_)|(refine ek_rem ?_;refine zAb (Ev_rem_w rfl rfl (by omega) hp) ?_)|(refine zBz ?_;refine zAb (Ev_neqFn14 rfl rfl) ?_)|refine xst ?_|(refine xsa ?_;intro _)|(refine xsb ?_ ?_ <;>intro _<;>try (exfalso;omega))|refine xsc ?_|(refine zAa (id:=9) plTGI0 (by kernel_rfl) (by kernel_rfl) ?_)|(refine zAa (id:=11) plTGI1 (by kernel_rfl) (by kernel_rfl) ?_)|(refine zAa (id:=13) plTGI2 (by kernel_rfl) (by kernel_rfl) ?_)|(refine zAa (id:=15) plTGI3 (by kernel_rfl) (by kernel_rfl) ?_)|(refine zAa (id:=16) plTGI4 (by kernel_rfl) (by kernel_rfl) ?_)|(refine zAa (id:=19) plTGI5 (by kernel_rfl) (by kernel_rfl) ?_)|(refine zAa (id:=20) plTGI6 (by kernel_rfl) (by kernel_rfl) ?_)|(refine zAa (id:=23) plTGI7 (by kernel_rfl) (by kernel_rfl) ?_)|(refine zAa (id:=32) plTGI8 (by kernel_rfl) (by kernel_rfl) ?_)|(refine zAa (id:=34) plTGI9 (by kernel_rfl) (by kernel_rfl) ?_)|(refine zAa (id:=40) plTGI10 (by kernel_rfl) (by kernel_rfl) ?_)|refine zAp ?_ ?_|refine zAn rfl rfl rfl rfl rfl ?_ ?_|refine zAg ?_ ?_|exact Rech.nil|fail)
 all_goals refine KJ.allOpen (L:=[BP,Y]) xS ?_
 all_goals (exact xdn (z0,ya,yc))
theorem drange14_end0 (o:TOp) (hk:o.kind=5) (hi:o.i % 2=0)
 (cR:Ct Tryz.prog W 22 [.pointer (some ⟨t,0,none⟩),strV o.key,strV o.val] [T] (fun _:Unit=>rngN) (fun _=>[T])) :
 Ct Tryz.prog W 8 [.pointer (some ⟨w,0,none⟩),.agg (topC o).toArray] [wP w s t ba bn bc sa sn sc true q0 q1 r0 r1,T] (fun _:Option Addr × Nat=>.bool true)
  (fun z=>[wP w s t ba bn bc sa sn sc true rngN q1 (.slice z.1 0 z.2) r1,T,roP z []]):=by
 obtain ⟨B,hB⟩:∃ B,IntKind.u64.wrap o.i=B:=⟨_,rfl⟩
 have hBb:0≤B∧B<18446744073709551616:=by
  have e:IntKind.u64.wrap o.i=o.i % 18446744073709551616:=rfl
  omega
 have hp:B % 2=0:=by
  have e:IntKind.u64.wrap o.i=o.i % 18446744073709551616:=rfl
  omega
 have hC:IntKind.i64.wrap 0=0:=rfl
 have cS:=sees14_end (W:=W) (ba:=ba) (bc:=bc) (sa:=sa) (sc:=sc) bn sn
 have cZ:Ct Tryz.prog W 23 [tblV none 0 0,strV o.key,strV o.val] [T] (fun x:Option Addr × Nat=>.slice x.1 0 x.2) (fun x=>[T,roP x []]):=erange_ct (W:=W) (A:=T) (ba:=none) (bc:=0) (l:=[]) Lv.empty (by decide) o.key o.val
 obtain ⟨okind,okey,oval,on_,oi⟩:=o
 dsimp only at *
 subst hk
 unfold topC
 dsimp only
 refine Ct.enter Tryz.func8 rfl Tryz.ntmps8 (by simp) (fun R=>?_)
 repeat' (first|(refine zBe ?_;refine zBb rfl xF rfl (fun g3=>?_))|(refine zAd ?_;first|(refine zAc xE cZ xP rfl (fun y=>?_);obtain ⟨ya,yc⟩:=y)|(refine zAc xE cS xP rfl (fun _=>?_))|(refine zAc xE cR xP rfl (fun _=>?_)))|(refine zBu ?_;first|refine zAb (zAw rfl hC) ?_|refine zAb (zAw rfl hB) ?_)|(refine zAy ?_;refine zAb (zAz xV xW) ?_)|(refine ek_rem ?_;refine zAb (Ev_rem_w rfl rfl (by omega) hp) ?_)|(refine zBz ?_;refine zAb (Ev_neqFn14 rfl rfl) ?_)|refine xst ?_|(refine xsa ?_;intro _)|(refine xsb ?_ ?_ <;>intro _<;>try (exfalso;omega))|refine xsc ?_|(refine zAa (id:=9) plTGI0 (by kernel_rfl) (by kernel_rfl) ?_)|(refine zAa (id:=11) plTGI1 (by kernel_rfl) (by kernel_rfl) ?_)|(refine zAa (id:=13) plTGI2 (by kernel_rfl) (by kernel_rfl) ?_)|(refine zAa (id:=15) plTGI3 (by kernel_rfl) (by kernel_rfl) ?_)|(refine zAa (id:=16) plTGI4 (by kernel_rfl) (by kernel_rfl) ?_)|(refine zAa (id:=19) plTGI5 (by kernel_rfl) (by kernel_rfl) ?_)|(refine zAa (id:=20) plTGI6 (by kernel_rfl) (by kernel_rfl) ?_)|(refine zAa (id:=23) plTGI7 (by kernel_rfl) (by kernel_rfl) ?_)|(refine zAa (id:=32) plTGI8 (by kernel_rfl) (by kernel_rfl) ?_)|(refine zAa (id:=34) plTGI9 (by kernel_rfl) (by kernel_rfl) ?_)|(refine zAa (id:=40) plTGI10 (by kernel_rfl) (by kernel_rfl) ?_)|refine zAp ?_ ?_|refine zAn rfl rfl rfl rfl rfl ?_ ?_|refine zAg ?_ ?_|exact Rech.nil|fail)
 all_goals (exact xdn (ya,yc))
theorem dgo14_no0 (o:TOp) (hk:o.kind=6) (hi:o.i % 2=0) :
 Ct Tryz.prog W 8 [.pointer (some ⟨w,0,none⟩),.agg (topC o).toArray] [wP w s t ba bn bc sa sn sc e .nilFunc q1 r0 r1] (fun _:Unit=>.bool true)
  (fun _=>[wP w s t ba bn bc sa sn sc e .nilFunc q1 r0 r1]):=by
 obtain ⟨B,hB⟩:∃ B,IntKind.u64.wrap o.i=B:=⟨_,rfl⟩
 have hBb:0≤B∧B<18446744073709551616:=by
  have e:IntKind.u64.wrap o.i=o.i % 18446744073709551616:=rfl
  omega
 have hp:B % 2=0:=by
  have e:IntKind.u64.wrap o.i=o.i % 18446744073709551616:=rfl
  omega
 have hC:IntKind.i64.wrap 0=0:=rfl
 obtain ⟨okind,okey,oval,on_,oi⟩:=o
 dsimp only at *
 subst hk
 unfold topC
 dsimp only
 refine Ct.enter Tryz.func8 rfl Tryz.ntmps8 (by simp) (fun R=>?_)
 repeat' (first|(refine zBe ?_;refine zBb rfl xF rfl (fun g3=>?_))|(refine zBu ?_;first|refine zAb (zAw rfl hC) ?_|refine zAb (zAw rfl hB) ?_)|(refine zAy ?_;refine zAb (zAz xV xW) ?_)|(refine ek_rem ?_;refine zAb (Ev_rem_w rfl rfl (by omega) hp) ?_)|(refine zBg ?_;refine zAb (Ev_eqlNilFn14 rfl rfl) ?_)|refine xst ?_|(refine xsa ?_;intro _)|(refine xsb ?_ ?_ <;>intro _<;>try (exfalso;omega))|refine xsc ?_|(refine zAa (id:=9) plTGI0 (by kernel_rfl) (by kernel_rfl) ?_)|(refine zAa (id:=11) plTGI1 (by kernel_rfl) (by kernel_rfl) ?_)|(refine zAa (id:=13) plTGI2 (by kernel_rfl) (by kernel_rfl) ?_)|(refine zAa (id:=15) plTGI3 (by kernel_rfl) (by kernel_rfl) ?_)|(refine zAa (id:=16) plTGI4 (by kernel_rfl) (by kernel_rfl) ?_)|(refine zAa (id:=19) plTGI5 (by kernel_rfl) (by kernel_rfl) ?_)|(refine zAa (id:=20) plTGI6 (by kernel_rfl) (by kernel_rfl) ?_)|(refine zAa (id:=23) plTGI7 (by kernel_rfl) (by kernel_rfl) ?_)|(refine zAa (id:=32) plTGI8 (by kernel_rfl) (by kernel_rfl) ?_)|(refine zAa (id:=34) plTGI9 (by kernel_rfl) (by kernel_rfl) ?_)|(refine zAa (id:=40) plTGI10 (by kernel_rfl) (by kernel_rfl) ?_)|refine zAp ?_ ?_|refine zAn rfl rfl rfl rfl rfl ?_ ?_|refine zAg ?_ ?_|exact Rech.nil|fail)
 all_goals (exact xdn ())
theorem dgo14_0 (o:TOp) (hk:o.kind=6) (hi:o.i % 2=0) {f0:Fn} {us vs:Array Value} {ra:Option Addr} {k rc:Nat}
 (cG:Ct Tryz.prog W 24 [.func f0 us vs,.slice ra k rc,.int .i64 o.n] [T,P0] (fun _:Unit=>.bool true) (fun _=>[T,P0])) :
 Ct Tryz.prog W 8 [.pointer (some ⟨w,0,none⟩),.agg (topC o).toArray] [wP w s t ba bn bc sa sn sc e (.func f0 us vs) q1 (.slice ra k rc) r1,T,P0] (fun _:Unit=>.bool true)
  (fun _=>[wP w s t ba bn bc sa sn sc e (.func f0 us vs) q1 (.slice ra k rc) r1,T,P0]):=by
 obtain ⟨B,hB⟩:∃ B,IntKind.u64.wrap o.i=B:=⟨_,rfl⟩
 have hBb:0≤B∧B<18446744073709551616:=by
  have e:IntKind.u64.wrap o.i=o.i % 18446744073709551616:=rfl
  omega
 have hp:B % 2=0:=by
  have e:IntKind.u64.wrap o.i=o.i % 18446744073709551616:=rfl
  omega
 have hC:IntKind.i64.wrap 0=0:=rfl
 obtain ⟨okind,okey,oval,on_,oi⟩:=o
 dsimp only at *
 subst hk
 unfold topC
 dsimp only
 refine Ct.enter Tryz.func8 rfl Tryz.ntmps8 (by simp) (fun R=>?_)
 repeat' (first|(refine zBe ?_;refine zBb rfl xF rfl (fun g3=>?_))|(refine zAd ?_;refine zAc xE cG xP rfl (fun _=>?_))|(refine zBu ?_;first|refine zAb (zAw rfl hC) ?_|refine zAb (zAw rfl hB) ?_)|(refine zAy ?_;refine zAb (zAz xV xW) ?_)|(refine ek_rem ?_;refine zAb (Ev_rem_w rfl rfl (by omega) hp) ?_)|(refine zBg ?_;refine zAb (Ev_eqlFn14 rfl rfl) ?_)|refine xst ?_|(refine xsa ?_;intro _)|(refine xsb ?_ ?_ <;>intro _<;>try (exfalso;omega))|refine xsc ?_|(refine zAa (id:=9) plTGI0 (by kernel_rfl) (by kernel_rfl) ?_)|(refine zAa (id:=11) plTGI1 (by kernel_rfl) (by kernel_rfl) ?_)|(refine zAa (id:=13) plTGI2 (by kernel_rfl) (by kernel_rfl) ?_)|(refine zAa (id:=15) plTGI3 (by kernel_rfl) (by kernel_rfl) ?_)|(refine zAa (id:=16) plTGI4 (by kernel_rfl) (by kernel_rfl) ?_)|(refine zAa (id:=19) plTGI5 (by kernel_rfl) (by kernel_rfl) ?_)|(refine zAa (id:=20) plTGI6 (by kernel_rfl) (by kernel_rfl) ?_)|(refine zAa (id:=23) plTGI7 (by kernel_rfl) (by kernel_rfl) ?_)|(refine zAa (id:=32) plTGI8 (by kernel_rfl) (by kernel_rfl) ?_)|(refine zAa (id:=34) plTGI9 (by kernel_rfl) (by kernel_rfl) ?_)|(refine zAa (id:=40) plTGI10 (by kernel_rfl) (by kernel_rfl) ?_)|refine zAp ?_ ?_|refine zAn rfl rfl rfl rfl rfl ?_ ?_|refine zAg ?_ ?_|exact Rech.nil|fail)
 all_goals (exact xdn ())
theorem drange14_1 (o:TOp) (hk:o.kind=5) (hi:o.i % 2=1)
 (hA:Lv W rC 2 BP ba l) (hs:SlOk ba bc l.length) (hr:RisR l) (hl:l.length≤100000000) (hS:st.length≤100000000) {xz:Z→Nat × Nat × Nat} {TZ EZ:Z→SP} (rr:Rows) (hrr:rr=(zBw o.key o.val (zAf l st)))
 (cR:Ct Tryz.prog W 22 [.pointer (some ⟨t,0,none⟩),strV o.key,strV o.val] [T] (fun z:Z=>rngV (xz z)) (fun z=>[TZ z,EZ z])) :
 Ct Tryz.prog W 8 [.pointer (some ⟨w,0,none⟩),.agg (topC o).toArray] [wP w s t ba l.length bc sa st.length sc false q0 q1 r0 r1,T,BP,opP (sa,sc) st] (fun _:Z × Option Addr × Nat=>.bool true)
  (fun z=>[wP w s t ba l.length bc sa st.length sc false q0 (rngV (xz z.1)) r0 (.slice z.2.1 rr.length z.2.2),TZ z.1,EZ z.1,BP,opP (sa,sc) st,roP z.2 rr]):=by
 obtain ⟨B,hB⟩:∃ B,IntKind.u64.wrap o.i=B:=⟨_,rfl⟩
 have hBb:0≤B∧B<18446744073709551616:=by
  have e:IntKind.u64.wrap o.i=o.i % 18446744073709551616:=rfl
  omega
 have hp:B % 2=1:=by
  have e:IntKind.u64.wrap o.i=o.i % 18446744073709551616:=rfl
  omega
 have hC:IntKind.i64.wrap 1=1:=rfl
 have cS:=sees14_ct (W:=W) (B:=opP (sa,sc) st) (sc:=sc) hA (Lv.own (e:=49) (c:=sc) zCa rfl) hs hr hl hS
 have hrl:=applyB_len st l
 have cZ:=fun (Y:SP) (za:Option Addr) (zc:Nat) (hL:Lv W rC 2 (allP 94 [BP,Y]) za (zAf l st))=>erange_ct (W:=W) (A:=allP 94 [BP,Y]) (ba:=za) (bc:=zc) (l:=zAf l st) hL (by omega) o.key o.val
 rw [← hrr] at cZ
 clear hrr
 obtain ⟨okind,okey,oval,on_,oi⟩:=o
 dsimp only at *
 subst hk
 unfold topC
 dsimp only
 refine Ct.enter Tryz.func8 rfl Tryz.ntmps8 (by simp) (fun R=>?_)
 repeat' (first|(refine zBe ?_;refine zBb rfl xF rfl (fun g3=>?_))|(refine zAd ?_;first|(refine zAc xE (cZ _ _ _ hzL) xP rfl (fun y=>?_);obtain ⟨ya,yc⟩:=y)|(refine zAc xE cS xP rfl (fun z=>?_);obtain ⟨⟨Y,za,zc⟩,hzL,hzs⟩:=z;dsimp only at hzL hzs ⊢)|(refine zAc xE cR xP rfl (fun z0=>?_)))|(refine zBu ?_;first|refine zAb (zAw rfl hC) ?_|refine zAb (zAw rfl hB) ?_)|(refine zAy ?_;refine zAb (zAz xV xW) ?_)|(refine ek_rem ?_;refine zAb (Ev_rem_w rfl rfl (by omega) hp) ?_)|(refine zBz ?_;refine zAb (Ev_neqFn14 rfl rfl) ?_)|refine xst ?_|(refine xsa ?_;intro _)|(refine xsb ?_ ?_ <;>intro _<;>try (exfalso;omega))|refine xsc ?_|(refine zAa (id:=9) plTGI0 (by kernel_rfl) (by kernel_rfl) ?_)|(refine zAa (id:=11) plTGI1 (by kernel_rfl) (by kernel_rfl) ?_)|(refine zAa (id:=13) plTGI2 (by kernel_rfl) (by kernel_rfl) ?_)|(refine zAa (id:=15) plTGI3 (by kernel_rfl) (by kernel_rfl) ?_)|(refine zAa (id:=16) plTGI4 (by kernel_rfl) (by kernel_rfl) ?_)|(refine zAa (id:=19) plTGI5 (by kernel_rfl) (by kernel_rfl) ?_)|(refine zAa (id:=20) plTGI6 (by kernel_rfl) (by kernel_rfl) ?_)|(refine zAa (id:=23) plTGI7 (by kernel_rfl) (by kernel_rfl) ?_)|(refine zAa (id:=32) plTGI8 (by kernel_rfl) (by kernel_rfl) ?_)|(refine zAa (id:=34) plTGI9 (by kernel_rfl) (by kernel_rfl) ?_)|(refine zAa (id:=40) plTGI10 (by kernel_rfl) (by kernel_rfl) ?_)|refine zAp ?_ ?_|refine zAn rfl rfl rfl rfl rfl ?_ ?_|refine zAg ?_ ?_|exact Rech.nil|fail)
 all_goals refine KJ.allOpen (L:=[BP,Y]) xS ?_
 all_goals (exact xdn (z0,ya,yc))
theorem drange14_end1 (o:TOp) (hk:o.kind=5) (hi:o.i % 2=1)
 (cR:Ct Tryz.prog W 22 [.pointer (some ⟨t,0,none⟩),strV o.key,strV o.val] [T] (fun _:Unit=>rngN) (fun _=>[T])) :
 Ct Tryz.prog W 8 [.pointer (some ⟨w,0,none⟩),.agg (topC o).toArray] [wP w s t ba bn bc sa sn sc true q0 q1 r0 r1,T] (fun _:Option Addr × Nat=>.bool true)
  (fun z=>[wP w s t ba bn bc sa sn sc true q0 rngN r0 (.slice z.1 0 z.2),T,roP z []]):=by
 obtain ⟨B,hB⟩:∃ B,IntKind.u64.wrap o.i=B:=⟨_,rfl⟩
 have hBb:0≤B∧B<18446744073709551616:=by
  have e:IntKind.u64.wrap o.i=o.i % 18446744073709551616:=rfl
  omega
 have hp:B % 2=1:=by
  have e:IntKind.u64.wrap o.i=o.i % 18446744073709551616:=rfl
  omega
 have hC:IntKind.i64.wrap 1=1:=rfl
 have cS:=sees14_end (W:=W) (ba:=ba) (bc:=bc) (sa:=sa) (sc:=sc) bn sn
 have cZ:Ct Tryz.prog W 23 [tblV none 0 0,strV o.key,strV o.val] [T] (fun x:Option Addr × Nat=>.slice x.1 0 x.2) (fun x=>[T,roP x []]):=erange_ct (W:=W) (A:=T) (ba:=none) (bc:=0) (l:=[]) Lv.empty (by decide) o.key o.val
 obtain ⟨okind,okey,oval,on_,oi⟩:=o
 dsimp only at *
 subst hk
 unfold topC
 dsimp only
 refine Ct.enter Tryz.func8 rfl Tryz.ntmps8 (by simp) (fun R=>?_)
 repeat' (first|(refine zBe ?_;refine zBb rfl xF rfl (fun g3=>?_))|(refine zAd ?_;first|(refine zAc xE cZ xP rfl (fun y=>?_);obtain ⟨ya,yc⟩:=y)|(refine zAc xE cS xP rfl (fun _=>?_))|(refine zAc xE cR xP rfl (fun _=>?_)))|(refine zBu ?_;first|refine zAb (zAw rfl hC) ?_|refine zAb (zAw rfl hB) ?_)|(refine zAy ?_;refine zAb (zAz xV xW) ?_)|(refine ek_rem ?_;refine zAb (Ev_rem_w rfl rfl (by omega) hp) ?_)|(refine zBz ?_;refine zAb (Ev_neqFn14 rfl rfl) ?_)|refine xst ?_|(refine xsa ?_;intro _)|(refine xsb ?_ ?_ <;>intro _<;>try (exfalso;omega))|refine xsc ?_|(refine zAa (id:=9) plTGI0 (by kernel_rfl) (by kernel_rfl) ?_)|(refine zAa (id:=11) plTGI1 (by kernel_rfl) (by kernel_rfl) ?_)|(refine zAa (id:=13) plTGI2 (by kernel_rfl) (by kernel_rfl) ?_)|(refine zAa (id:=15) plTGI3 (by kernel_rfl) (by kernel_rfl) ?_)|(refine zAa (id:=16) plTGI4 (by kernel_rfl) (by kernel_rfl) ?_)|(refine zAa (id:=19) plTGI5 (by kernel_rfl) (by kernel_rfl) ?_)|(refine zAa (id:=20) plTGI6 (by kernel_rfl) (by kernel_rfl) ?_)|(refine zAa (id:=23) plTGI7 (by kernel_rfl) (by kernel_rfl) ?_)|(refine zAa (id:=32) plTGI8 (by kernel_rfl) (by kernel_rfl) ?_)|(refine zAa (id:=34) plTGI9 (by kernel_rfl) (by kernel_rfl) ?_)|(refine zAa (id:=40) plTGI10 (by kernel_rfl) (by kernel_rfl) ?_)|refine zAp ?_ ?_|refine zAn rfl rfl rfl rfl rfl ?_ ?_|refine zAg ?_ ?_|exact Rech.nil|fail)
 all_goals (exact xdn (ya,yc))
theorem dgo14_no1 (o:TOp) (hk:o.kind=6) (hi:o.i % 2=1) :
 Ct Tryz.prog W 8 [.pointer (some ⟨w,0,none⟩),.agg (topC o).toArray] [wP w s t ba bn bc sa sn sc e q0 .nilFunc r0 r1] (fun _:Unit=>.bool true)
  (fun _=>[wP w s t ba bn bc sa sn sc e q0 .nilFunc r0 r1]):=by
 obtain ⟨B,hB⟩:∃ B,IntKind.u64.wrap o.i=B:=⟨_,rfl⟩
 have hBb:0≤B∧B<18446744073709551616:=by
  have e:IntKind.u64.wrap o.i=o.i % 18446744073709551616:=rfl
  omega
 have hp:B % 2=1:=by
  have e:IntKind.u64.wrap o.i=o.i % 18446744073709551616:=rfl
  omega
 have hC:IntKind.i64.wrap 1=1:=rfl
 obtain ⟨okind,okey,oval,on_,oi⟩:=o
 dsimp only at *
 subst hk
 unfold topC
 dsimp only
 refine Ct.enter Tryz.func8 rfl Tryz.ntmps8 (by simp) (fun R=>?_)
 repeat' (first|(refine zBe ?_;refine zBb rfl xF rfl (fun g3=>?_))|(refine zBu ?_;first|refine zAb (zAw rfl hC) ?_|refine zAb (zAw rfl hB) ?_)|(refine zAy ?_;refine zAb (zAz xV xW) ?_)|(refine ek_rem ?_;refine zAb (Ev_rem_w rfl rfl (by omega) hp) ?_)|(refine zBg ?_;refine zAb (Ev_eqlNilFn14 rfl rfl) ?_)|refine xst ?_|(refine xsa ?_;intro _)|(refine xsb ?_ ?_ <;>intro _<;>try (exfalso;omega))|refine xsc ?_|(refine zAa (id:=9) plTGI0 (by kernel_rfl) (by kernel_rfl) ?_)|(refine zAa (id:=11) plTGI1 (by kernel_rfl) (by kernel_rfl) ?_)|(refine zAa (id:=13) plTGI2 (by kernel_rfl) (by kernel_rfl) ?_)|(refine zAa (id:=15) plTGI3 (by kernel_rfl) (by kernel_rfl) ?_)|(refine zAa (id:=16) plTGI4 (by kernel_rfl) (by kernel_rfl) ?_)|(refine zAa (id:=19) plTGI5 (by kernel_rfl) (by kernel_rfl) ?_)|(refine zAa (id:=20) plTGI6 (by kernel_rfl) (by kernel_rfl) ?_)|(refine zAa (id:=23) plTGI7 (by kernel_rfl) (by kernel_rfl) ?_)|(refine zAa (id:=32) plTGI8 (by kernel_rfl) (by kernel_rfl) ?_)|(refine zAa (id:=34) plTGI9 (by kernel_rfl) (by kernel_rfl) ?_)|(refine zAa (id:=40) plTGI10 (by kernel_rfl) (by kernel_rfl) ?_)|refine zAp ?_ ?_|refine zAn rfl rfl rfl rfl rfl ?_ ?_|refine zAg ?_ ?_|exact Rech.nil|fail)
 all_goals (exact xdn ())
theorem dgo14_1 (o:TOp) (hk:o.kind=6) (hi:o.i % 2=1) {f0:Fn} {us vs:Array Value} {ra:Option Addr} {k rc:Nat}
 (cG:Ct Tryz.prog W 24 [.func f0 us vs,.slice ra k rc,.int .i64 o.n] [T,P0] (fun _:Unit=>.bool true) (fun _=>[T,P0])) :
 Ct Tryz.prog W 8 [.pointer (some ⟨w,0,none⟩),.agg (topC o).toArray] [wP w s t ba bn bc sa sn sc e q0 (.func f0 us vs) r0 (.slice ra k rc),T,P0] (fun _:Unit=>.bool true)
  (fun _=>[wP w s t ba bn bc sa sn sc e q0 (.func f0 us vs) r0 (.slice ra k rc),T,P0]):=by
 obtain ⟨B,hB⟩:∃ B,IntKind.u64.wrap o.i=B:=⟨_,rfl⟩
 have hBb:0≤B∧B<18446744073709551616:=by
  have e:IntKind.u64.wrap o.i=o.i % 18446744073709551616:=rfl
  omega
 have hp:B % 2=1:=by
  have e:IntKind.u64.wrap o.i=o.i % 18446744073709551616:=rfl
  omega
 have hC:IntKind.i64.wrap 1=1:=rfl
 obtain ⟨okind,okey,oval,on_,oi⟩:=o
 dsimp only at *
 subst hk
 unfold topC
 dsimp only
 refine Ct.enter Tryz.func8 rfl Tryz.ntmps8 (by simp) (fun R=>?_)
 repeat' (first|(refine zBe ?_;refine zBb rfl xF rfl (fun g3=>?_))|(refine zAd ?_;refine zAc xE cG xP rfl (fun _=>?_))|(refine zBu ?_;first|refine zAb (zAw rfl hC) ?_|refine zAb (zAw rfl hB) ?_)|(refine zAy ?_;refine zAb (zAz xV xW) ?_)|(refine ek_rem ?_;refine zAb (Ev_rem_w rfl rfl (by omega) hp) ?_)|(refine zBg ?_;refine zAb (Ev_eqlFn14 rfl rfl) ?_)|refine xst ?_|(refine xsa ?_;intro _)|(refine xsb ?_ ?_ <;>intro _<;>try (exfalso;omega))|refine xsc ?_|(refine zAa (id:=9) plTGI0 (by kernel_rfl) (by kernel_rfl) ?_)|(refine zAa (id:=11) plTGI1 (by kernel_rfl) (by kernel_rfl) ?_)|(refine zAa (id:=13) plTGI2 (by kernel_rfl) (by kernel_rfl) ?_)|(refine zAa (id:=15) plTGI3 (by kernel_rfl) (by kernel_rfl) ?_)|(refine zAa (id:=16) plTGI4 (by kernel_rfl) (by kernel_rfl) ?_)|(refine zAa (id:=19) plTGI5 (by kernel_rfl) (by kernel_rfl) ?_)|(refine zAa (id:=20) plTGI6 (by kernel_rfl) (by kernel_rfl) ?_)|(refine zAa (id:=23) plTGI7 (by kernel_rfl) (by kernel_rfl) ?_)|(refine zAa (id:=32) plTGI8 (by kernel_rfl) (by kernel_rfl) ?_)|(refine zAa (id:=34) plTGI9 (by kernel_rfl) (by kernel_rfl) ?_)|(refine zAa (id:=40) plTGI10 (by kernel_rfl) (by kernel_rfl) ?_)|refine zAp ?_ ?_|refine zAn rfl rfl rfl rfl rfl ?_ ?_|refine zAg ?_ ?_|exact Rech.nil|fail)
 all_goals (exact xdn ())
theorem dbig14_ct (o:TOp) (hk:o.kind=13) (hon:-9223372036854775808≤o.n∧o.n≤9223372036854775807) (hst:st.length≤100000000) (nz:List UInt8) (hz:nz=noughtsB o.n)
 (cP:Ct Tryz.prog W 11 [.pointer (some ⟨t,0,none⟩),strV o.key,strV nz] [T] (fun _:Unit=>.nilIface) (fun _=>[T'])) :
 Ct Tryz.prog W 8 [.pointer (some ⟨w,0,none⟩),.agg (topC o).toArray] [wP w s t ba bn bc sa st.length sc false q0 q1 r0 r1,T,opP (sa,sc) st] (fun _:Option Addr × Nat=>.bool true)
  (fun z=>[wP w s t ba bn bc z.1 (st++[(⟨false,o.key,nz⟩:BOp)]).length z.2 false q0 q1 r0 r1,T',opP z (st++[(⟨false,o.key,nz⟩:BOp)])]):=by
 have cS:=wstep14_ct (W:=W) (w:=w) (s:=s) (t:=t) (ba:=ba) (sa:=sa) (bn:=bn) (bc:=bc) (sc:=sc) (q0:=q0) (q1:=q1) (r0:=r0) (r1:=r1) hst ⟨false,o.key,nz⟩
 have cZ:=noughts_ct (W:=W) o.n hon
 rw [← hz] at cZ
 clear hz
 obtain ⟨okind,okey,oval,on_,oi⟩:=o
 dsimp only at *
 subst hk
 unfold topC
 dsimp only
 refine Ct.enter Tryz.func8 rfl Tryz.ntmps8 (by simp) (fun R=>?_)
 repeat' (first|(refine zBe ?_;refine zBb rfl xF rfl (fun g3=>?_))|(refine zAd ?_;first|(refine zAc xE cP xP rfl (fun _=>?_))|(refine zAc xE cS xP rfl (fun x=>?_))|(refine zAc xE cZ xP rfl (fun _=>?_)))|(refine zAy ?_;refine zAb (zAz xV xW) ?_)|refine xst ?_|(refine xsa ?_;intro _)|(refine xsb ?_ ?_ <;>intro _<;>try (exfalso;omega))|refine xsc ?_|(refine zAa (id:=9) plTGI0 (by kernel_rfl) (by kernel_rfl) ?_)|(refine zAa (id:=11) plTGI1 (by kernel_rfl) (by kernel_rfl) ?_)|(refine zAa (id:=13) plTGI2 (by kernel_rfl) (by kernel_rfl) ?_)|(refine zAa (id:=15) plTGI3 (by kernel_rfl) (by kernel_rfl) ?_)|(refine zAa (id:=16) plTGI4 (by kernel_rfl) (by kernel_rfl) ?_)|(refine zAa (id:=19) plTGI5 (by kernel_rfl) (by kernel_rfl) ?_)|(refine zAa (id:=20) plTGI6 (by kernel_rfl) (by kernel_rfl) ?_)|(refine zAa (id:=23) plTGI7 (by kernel_rfl) (by kernel_rfl) ?_)|(refine zAa (id:=32) plTGI8 (by kernel_rfl) (by kernel_rfl) ?_)|(refine zAa (id:=34) plTGI9 (by kernel_rfl) (by kernel_rfl) ?_)|(refine zAa (id:=40) plTGI10 (by kernel_rfl) (by kernel_rfl) ?_)|refine zAp ?_ ?_|refine zAn rfl rfl rfl rfl rfl ?_ ?_|refine zAg ?_ ?_|exact Rech.nil|fail)
 all_goals (exact xdn x)
theorem dbig14_end (o:TOp) (hk:o.kind=13) (hE:ErrsOn L16 W F) (hon:-9223372036854775808≤o.n∧o.n≤9223372036854775807) (nz:List UInt8) (hz:nz=noughtsB o.n)
 (cP:Ct Tryz.prog W 11 [.pointer (some ⟨t,0,none⟩),strV o.key,strV nz] [T] (fun _:Unit=>errV F 19) (fun _=>[T])) :
 Ct Tryz.prog W 8 [.pointer (some ⟨w,0,none⟩),.agg (topC o).toArray] [wP w s t ba bn bc sa sn sc true q0 q1 r0 r1,T] (fun _:Unit=>.bool true)
  (fun _=>[wP w s t ba bn bc sa sn sc true q0 q1 r0 r1,T]):=by
 have cS:=wstep14_end (W:=W) (F:=F) (w:=w) (s:=s) (t:=t) (ba:=ba) (bn:=bn) (bc:=bc) (sa:=sa) (sn:=sn) (sc:=sc) (q0:=q0) (q1:=q1) (r0:=r0) (r1:=r1) hE ⟨false,o.key,nz⟩
 have cZ:=noughts_ct (W:=W) o.n hon
 rw [← hz] at cZ
 clear hz
 obtain ⟨okind,okey,oval,on_,oi⟩:=o
 dsimp only at *
 subst hk
 unfold topC
 dsimp only
 refine Ct.enter Tryz.func8 rfl Tryz.ntmps8 (by simp) (fun R=>?_)
 repeat' (first|(refine zBe ?_;refine zBb rfl xF rfl (fun g3=>?_))|(refine zAd ?_;first|(refine zAc xE cP xP rfl (fun _=>?_))|(refine zAc xE cS xP rfl (fun _=>?_))|(refine zAc xE cZ xP rfl (fun _=>?_)))|(refine zAy ?_;refine zAb (zAz xV xW) ?_)|refine xst ?_|(refine xsa ?_;intro _)|(refine xsb ?_ ?_ <;>intro _<;>try (exfalso;omega))|refine xsc ?_|(refine zAa (id:=9) plTGI0 (by kernel_rfl) (by kernel_rfl) ?_)|(refine zAa (id:=11) plTGI1 (by kernel_rfl) (by kernel_rfl) ?_)|(refine zAa (id:=13) plTGI2 (by kernel_rfl) (by kernel_rfl) ?_)|(refine zAa (id:=15) plTGI3 (by kernel_rfl) (by kernel_rfl) ?_)|(refine zAa (id:=16) plTGI4 (by kernel_rfl) (by kernel_rfl) ?_)|(refine zAa (id:=19) plTGI5 (by kernel_rfl) (by kernel_rfl) ?_)|(refine zAa (id:=20) plTGI6 (by kernel_rfl) (by kernel_rfl) ?_)|(refine zAa (id:=23) plTGI7 (by kernel_rfl) (by kernel_rfl) ?_)|(refine zAa (id:=32) plTGI8 (by kernel_rfl) (by kernel_rfl) ?_)|(refine zAa (id:=34) plTGI9 (by kernel_rfl) (by kernel_rfl) ?_)|(refine zAa (id:=40) plTGI10 (by kernel_rfl) (by kernel_rfl) ?_)|refine zAp ?_ ?_|refine zAn rfl rfl rfl rfl rfl ?_ ?_|refine zAg ?_ ?_|exact Rech.nil|fail)
 all_goals (exact xdn ())
theorem dnone14_ct (o:TOp) (k1:o.kind≠1) (k2:o.kind≠2) (k3:o.kind≠3) (k4:o.kind≠4) (k5:o.kind≠5) (k6:o.kind≠6) (k7:o.kind≠7) (k8:o.kind≠8) (k9:o.kind≠9) (k10:o.kind≠10) (k11:o.kind≠11) (k12:o.kind≠12) (k13:o.kind≠13) :
 Ct Tryz.prog W 8 [.pointer (some ⟨w,0,none⟩),.agg (topC o).toArray] [wP w s t ba bn bc sa sn sc e q0 q1 r0 r1] (fun _:Unit=>.bool true)
  (fun _=>[wP w s t ba bn bc sa sn sc e q0 q1 r0 r1]):=by
 have z1:decide (o.kind=1)=false:=decide_eq_false k1
 have z2:decide (o.kind=2)=false:=decide_eq_false k2
 have z3:decide (o.kind=3)=false:=decide_eq_false k3
 have z4:decide (o.kind=4)=false:=decide_eq_false k4
 have z5:decide (o.kind=5)=false:=decide_eq_false k5
 have z6:decide (o.kind=6)=false:=decide_eq_false k6
 have z7:decide (o.kind=7)=false:=decide_eq_false k7
 have z8:decide (o.kind=8)=false:=decide_eq_false k8
 have z9:decide (o.kind=9)=false:=decide_eq_false k9
 have z10:decide (o.kind=10)=false:=decide_eq_false k10
 have z11:decide (o.kind=11)=false:=decide_eq_false k11
 have z12:decide (o.kind=12)=false:=decide_eq_false k12
 have z13:decide (o.kind=13)=false:=decide_eq_false k13
 obtain ⟨okind,okey,oval,on_,oi⟩:=o
 dsimp only at *
 unfold topC
 dsimp only
 refine Ct.enter Tryz.func8 rfl Tryz.ntmps8 (by simp) (fun R=>?_)
 repeat' (first|(refine zBe ?_;refine zBb rfl xF rfl (fun g3=>?_))|(refine zAy ?_;refine zAb (zAz xV xW) ?_)|(refine zBg ?_;first|refine zAb (zAr rfl rfl z13) ?_|refine zAb (zAr rfl rfl z12) ?_|refine zAb (zAr rfl rfl z11) ?_|refine zAb (zAr rfl rfl z10) ?_|refine zAb (zAr rfl rfl z9) ?_|refine zAb (zAr rfl rfl z8) ?_|refine zAb (zAr rfl rfl z7) ?_|refine zAb (zAr rfl rfl z6) ?_|refine zAb (zAr rfl rfl z5) ?_|refine zAb (zAr rfl rfl z4) ?_|refine zAb (zAr rfl rfl z3) ?_|refine zAb (zAr rfl rfl z2) ?_|refine zAb (zAr rfl rfl z1) ?_)|refine xst ?_|(refine xsa ?_;intro _)|(refine xsb ?_ ?_ <;>intro _<;>try (exfalso;omega))|refine xsc ?_|(refine zAa (id:=9) plTGI0 (by kernel_rfl) (by kernel_rfl) ?_)|(refine zAa (id:=11) plTGI1 (by kernel_rfl) (by kernel_rfl) ?_)|(refine zAa (id:=13) plTGI2 (by kernel_rfl) (by kernel_rfl) ?_)|(refine zAa (id:=15) plTGI3 (by kernel_rfl) (by kernel_rfl) ?_)|(refine zAa (id:=16) plTGI4 (by kernel_rfl) (by kernel_rfl) ?_)|(refine zAa (id:=19) plTGI5 (by kernel_rfl) (by kernel_rfl) ?_)|(refine zAa (id:=20) plTGI6 (by kernel_rfl) (by kernel_rfl) ?_)|(refine zAa (id:=23) plTGI7 (by kernel_rfl) (by kernel_rfl) ?_)|(refine zAa (id:=32) plTGI8 (by kernel_rfl) (by kernel_rfl) ?_)|(refine zAa (id:=34) plTGI9 (by kernel_rfl) (by kernel_rfl) ?_)|(refine zAa (id:=40) plTGI10 (by kernel_rfl) (by kernel_rfl) ?_)|refine zAp ?_ ?_|refine zAn rfl rfl rfl rfl rfl ?_ ?_|refine zAg ?_ ?_|exact Rech.nil|fail)
 all_goals (exact xdn ())
end
end Go.Proofs.YtgipenahkmbelaaGreatDoor
namespace Go.Proofs.YtgipenahkmbelaaGreatDoor
open Go Go.RowKit
section
variable {W:World}
theorem over14_ct {N:List Nd} {a:Option Addr} {lo hi:List UInt8} {l:Rows} (hR:RgN N a lo hi l) (hl:l.length≤2000000) (x:Nat × Nat × Nat) (key:Nat) (ra:Option Addr) (rc:Nat) (n:Int) (hn:-9223372036854775808≤n∧n≤9223372036854775807) :
 Ct Tryz.prog W 24 [rngV x,.slice ra l.length rc,.int .i64 n] [arP N,allP key (roP (ra,rc) l::rngP x a lo hi)] (fun _:Unit=>.bool true) (fun _=>[arP N,allP key (roP (ra,rc) l::rngP x a lo hi)]):=by
 obtain ⟨tr,m,hRg,hm,hat⟩:=hR.out
 have hle:=hRg.le
 have hL:Lv W rC 2 (roP (ra,rc) l) ra l:=Lv.own (e:=36) (c:=rc) zCc rfl
 refine Ct.enter Tryz.func24 rfl Tryz.ntmps24 (by simp) (fun R=>?_)
 refine KJ.allOpen (L:=roP (ra,rc) l::rngP x a lo hi) xS ?_
 refine KJ.slOk (l:=l) (a:=ra) (c:=rc) (m:=l.length) xS (fun hs=>?_)
 obtain ⟨x1,x2,x3⟩:=x
 repeat' (first|(refine zBc ?_;refine zAu rfl (fun g7=>?_))|(refine zBe ?_;first|(refine zBb (d:=5) rfl xF rfl (fun g5=>?_))|(refine zBb (d:=4) rfl xF rfl (fun g4=>?_)))|(refine zBi ?_;refine KJ_bslice0 rfl (fun g0=>?_))|(refine zBg ?_;refine zAb (Ev_eqlFn14 rfl rfl) ?_)|refine xst ?_|(refine xsa ?_;intro _)|(refine xsb ?_ ?_ <;>intro _<;>try (exfalso;omega))|refine xsc ?_|fail)
 obtain ⟨F,hF⟩:∃ F:Nat→Value→List SP,F=fun i o=>[zAh g7 [o] 22,lsP rC 36 2 o (l.take i),zAh g4 [.slice ra l.length rc] 22,zAh g5 [.int .i64 n] 3]:=⟨_,rfl⟩
 have hFi:∀ i o,F i o=[zAh g7 [o] 22,lsP rC 36 2 o (l.take i),zAh g4 [.slice ra l.length rc] 22,zAh g5 [.int .i64 n] 3]:=fun i o=>by rw [hF]
 clear hF
 refine KJ.packs (tag:=93) (key:=g7) (F:=fun o:{_o:Value//n<1∨((0:Nat):Int)<n}=>F 0 o.1) ⟨.slice (some ⟨g0,0,none⟩) 0 0,by omega⟩ (by rw [hFi];exact xP) ?_
 refine KJ_rangeRng (x:=(x1,x2,x3)) (a:=a) (N:=N) rfl rfl hRg rfl (by decide) (fun i=>packP 93 g7 (fun o:{_o:Value//n<1∨((i:Nat):Int)<n}=>F i o.1)) (fun i=>packP 93 g7 (fun o:{_o:Value//((i:Nat):Int)+1=n}=>F (i+1) o.1)) (.exit 0) xP (fun lp i p hp him R'=>?_) ?_ (fun i him=>?_)
 ·have hlp:=hat i p hp him
  dsimp only [Env.ofPs]
  refine KJ.unpack_at (F:=fun o:{_o:Value//n<1∨((i:Nat):Int)<n}=>F i o.1) xS (fun ⟨o,ho⟩=>?_)
  dsimp only at ho ⊢
  rw [hFi]
  have em:l.take i++[p]=l.take (i+1):=by rw [List.take_add_one,hlp];rfl
  have hlen:(l.take i).length=i:=by rw [List.length_take];omega
  have eN:(l.take i++[p]).length=i+1:=by rw [List.length_append,hlen];rfl
  have b1:((l.take i).length+1)*32≤140737488355328:=by omega
  have b2:(l.take i).length+1≤9223372036854775807:=by omega
  have qg:decide (((l.length:Nat):Int)<(((l.take i++[p]).length:Nat):Int))=false:=decide_eq_false (by rw [eN];omega)
  by_cases hb:((i:Nat):Int)+1=n
  ·have qe:decide ((((l.take i++[p]).length:Nat):Int)=n)=true:=decide_eq_true (by rw [eN];omega)
   repeat' (first|(refine is_begin ?_;refine KJ_begin xS ?_)|(refine zBq ?_;refine zCe (l:=l.take i) (a:=p) zCc rfl rfl rfl xS xS b1 b2 rfl (fun g' c'=>?_))|(refine zBi ?_;refine zBt rfl xF (by rfl) (by omega) rfl (fun gb=>?_))|(refine zAy ?_;refine zAb (zAz xV xW) ?_)|(refine zBg ?_;refine zAb (zAr rfl rfl qe) ?_)|(refine zBf ?_;refine zAb (zAk rfl rfl qg) ?_)|refine xst ?_|(refine xsa ?_;intro _)|(refine xsb ?_ ?_ <;>intro _<;>try (exfalso;omega))|refine xsc ?_|fail)
   all_goals rw [em]
   all_goals refine KJ.packs (tag:=93) (key:=g7) (F:=fun o:{_o:Value//((i:Nat):Int)+1=n}=>F (i+1) o.1) ⟨.slice (some ⟨g',0,none⟩) (l.take (i+1)).length c',hb⟩ (by rw [hFi];exact xP) ?_
   all_goals exact KJ_round_f xS (xN)
  ·have qe:decide ((((l.take i++[p]).length:Nat):Int)=n)=false:=decide_eq_false (by rw [eN];omega)
   repeat' (first|(refine is_begin ?_;refine KJ_begin xS ?_)|(refine zBq ?_;refine zCe (l:=l.take i) (a:=p) zCc rfl rfl rfl xS xS b1 b2 rfl (fun g' c'=>?_))|(refine zBi ?_;refine zBt rfl xF (by rfl) (by omega) rfl (fun gb=>?_))|(refine zAy ?_;refine zAb (zAz xV xW) ?_)|(refine zBg ?_;refine zAb (zAr rfl rfl qe) ?_)|(refine zBf ?_;refine zAb (zAk rfl rfl qg) ?_)|refine xst ?_|(refine xsa ?_;intro _)|(refine xsb ?_ ?_ <;>intro _<;>try (exfalso;omega))|refine xsc ?_|fail)
   all_goals rw [em]
   all_goals refine KJ.packs (tag:=93) (key:=g7) (F:=fun o:{_o:Value//n<1∨((i+1:Nat):Int)<n}=>F (i+1) o.1) ⟨.slice (some ⟨g',0,none⟩) (l.take (i+1)).length c',by omega⟩ (by rw [hFi];exact xP) ?_
   all_goals exact KJ_round_t xS (xN)
 ·refine KJ.unpack_at (F:=fun o:{_o:Value//n<1∨((m:Nat):Int)<n}=>F m o.1) xS (fun ⟨o,ho⟩=>?_)
  dsimp only at ho ⊢
  rw [hFi,hm,List.take_length]
  have cE:=fun (ya:Option Addr) (yc:Nat)=>srows14_ct (W:=W) (roP (ya,yc) l) (roP (ra,rc) l) ya ra yc rc l (Lv.own (e:=36) (c:=yc) zCc rfl) hL (by omega)
  refine KJ.lsOpen (l:=l) (v:=o) xS (fun a1 c1 hv _=>?_)
  subst hv
  by_cases h1:n<1
  ·have q1:decide (1≤n)=false:=decide_eq_false (by omega)
   repeat' (first|(refine zAd ?_;refine zAc xE (cE _ _) xP rfl (fun _=>?_))|(refine ek_geq ?_;refine zAb (zBk rfl rfl q1) ?_)|refine xst ?_|(refine xsa ?_;intro _)|(refine xsb ?_ ?_ <;>intro _<;>try (exfalso;omega))|refine xsc ?_|fail)
   all_goals refine KJ.allShut (L:=roP (ra,rc) l::rngP (x1,x2,x3) a lo hi) key xP ?_
   all_goals (exact xdn ())
  ·have q1:decide (1≤n)=true:=decide_eq_true (by omega)
   have q2:decide (n<((l.length:Nat):Int))=false:=decide_eq_false (by omega)
   repeat' (first|(refine zAd ?_;refine zAc xE (cE _ _) xP rfl (fun _=>?_))|(refine zAq ?_;refine zAb (zAe rfl rfl q2) ?_)|(refine ek_geq ?_;refine zAb (zBk rfl rfl q1) ?_)|refine xst ?_|(refine xsa ?_;intro _)|(refine xsb ?_ ?_ <;>intro _<;>try (exfalso;omega))|refine xsc ?_|fail)
   all_goals refine KJ.allShut (L:=roP (ra,rc) l::rngP (x1,x2,x3) a lo hi) key xP ?_
   all_goals (exact xdn ())
 ·refine KJ.unpack_at (F:=fun o:{_o:Value//((i:Nat):Int)+1=n}=>F (i+1) o.1) xS (fun ⟨o,ho⟩=>?_)
  dsimp only at ho ⊢
  rw [hFi]
  obtain ⟨j,hj⟩:∃ j,j=i+1:=⟨_,rfl⟩
  rw [← hj]
  have hjm:j≤l.length:=by omega
  have hj1:1≤j:=by omega
  have hnj:n=((j:Nat):Int):=by omega
  clear hj ho him
  subst hnj
  have hlen:(l.take j).length=j:=by rw [List.length_take];omega
  have hL2:=hL.takeB zCc j
  have hcap:=hs.le
  have q1:decide ((1:Int)≤((j:Nat):Int))=true:=decide_eq_true (by omega)
  refine KJ.lsOpen (l:=l.take j) (v:=o) xS (fun a1 c1 hv _=>?_)
  subst hv
  by_cases h2:j<l.length
  ·have q2:decide (((j:Nat):Int)<((l.length:Nat):Int))=true:=decide_eq_true (by omega)
   have cE:=fun (ya:Option Addr) (yc:Nat)=>srows14_ct (W:=W) (roP (ya,yc) (l.take j)) (roP (ra,rc) l) ya ra yc rc (l.take j) (Lv.own (e:=36) (c:=yc) zCc rfl) hL2 (by omega)
   obtain ⟨T,hT⟩:∃ T,T=l.take j:=⟨_,rfl⟩
   rw [← hT] at cE hlen ⊢
   clear hT
   subst hlen
   repeat' (first|(refine zAd ?_;refine zAc xE (cE _ _) xP rfl (fun _=>?_))|(refine zCg ?_;refine zAb (Ev_sliceToB rfl rfl hs.nil (by omega)) ?_)|(refine zAq ?_;refine zAb (zAe rfl rfl q2) ?_)|(refine ek_geq ?_;refine zAb (zBk rfl rfl q1) ?_)|refine xst ?_|(refine xsa ?_;intro _)|(refine xsb ?_ ?_ <;>intro _<;>try (exfalso;omega))|refine xsc ?_|fail)
   all_goals refine KJ.allShut (L:=roP (ra,rc) l::rngP (x1,x2,x3) a lo hi) key xP ?_
   all_goals (exact xdn ())
  ·have q2:decide (((j:Nat):Int)<((l.length:Nat):Int))=false:=decide_eq_false (by omega)
   have eT:l.take j=l:=List.take_of_length_le (by omega)
   have cE:=fun (ya:Option Addr) (yc:Nat)=>srows14_ct (W:=W) (roP (ya,yc) l) (roP (ra,rc) l) ya ra yc rc l (Lv.own (e:=36) (c:=yc) zCc rfl) hL (by omega)
   rw [eT]
   repeat' (first|(refine zAd ?_;refine zAc xE (cE _ _) xP rfl (fun _=>?_))|(refine zAq ?_;refine zAb (zAe rfl rfl q2) ?_)|(refine ek_geq ?_;refine zAb (zBk rfl rfl q1) ?_)|refine xst ?_|(refine xsa ?_;intro _)|(refine xsb ?_ ?_ <;>intro _<;>try (exfalso;omega))|refine xsc ?_|fail)
   all_goals refine KJ.allShut (L:=roP (ra,rc) l::rngP (x1,x2,x3) a lo hi) key xP ?_
   all_goals (exact xdn ())
theorem rangeN1_ct (lp:Nat) (A:SP):Ct Tryz.prog W 48 [yv lp] [A] (fun _:Unit=>.tuple #[]) (fun _=>[A]):=by
 refine Ct.enter Tryz.func48 rfl Tryz.ntmps48 (by simp) (fun R=>?_)
 repeat' (first|refine xst ?_|(refine xsa ?_;intro _)|(refine xsb ?_ ?_ <;>intro _<;>try (exfalso;omega))|refine xsc ?_|fail)
 all_goals (exact xdn ())
theorem over14_end (A:SP) (key:Nat) (ra:Option Addr) (rc:Nat) (n:Int) :
 Ct Tryz.prog W 24 [rngN,.slice ra 0 rc,.int .i64 n] [A,allP key [roP (ra,rc) []]] (fun _:Unit=>.bool true) (fun _=>[A,allP key [roP (ra,rc) []]]):=by
 have cE:=fun g:Nat=>srows14_ct (W:=W) (roP (some ⟨g,0,none⟩,0) []) A (some ⟨g,0,none⟩) ra 0 rc [] Lv.empty Lv.empty (by decide)
 have q2:∀ h:1≤n,decide (n<0)=false:=fun h=>decide_eq_false (by omega)
 refine Ct.enter Tryz.func24 rfl Tryz.ntmps24 (by simp) (fun R=>?_)
 repeat' (first|(refine zBc ?_;refine zAu rfl (fun g7=>?_))|(refine zBe ?_;first|(refine zBb (d:=5) rfl xF rfl (fun g5=>?_))|(refine zBb (d:=4) rfl xF rfl (fun g4=>?_)))|(refine zBi ?_;refine KJ_bslice0 rfl (fun g0=>?_))|(refine zBg ?_;refine zAb (Ev_eqlFn14 rfl rfl) ?_)|refine xst ?_|(refine xsa ?_;intro _)|(refine xsb ?_ ?_ <;>intro _<;>try (exfalso;omega))|refine xsc ?_|fail)
 refine KJ_range (X:=Unit) (lb:=[]) (Hpre:=[A]) (pe:=fun _=>none) (Hp:=fun _=>[A]) (v:=fun _=>.tuple #[]) rfl rfl (fun l=>?_) xP (fun _ _=>?_) (fun _ c h=>nomatch h)
 ·exact ((rangeN1_ct l A).frm [recP l .ready none _ _ _ _ _]).conv (fun R g q=>starL_swap g q) (fun _ R g q=>starL_swap g q)
 ·by_cases h1:n<1
  ·have q1:decide (1≤n)=false:=decide_eq_false (by omega)
   repeat' (first|(refine zAd ?_;refine zAc xE (cE _) xP rfl (fun _=>?_))|(refine ek_geq ?_;refine zAb (zBk rfl rfl q1) ?_)|refine xst ?_|(refine xsa ?_;intro _)|(refine xsb ?_ ?_ <;>intro _<;>try (exfalso;omega))|refine xsc ?_|fail)
   all_goals (exact xdn ())
  ·have q1:decide (1≤n)=true:=decide_eq_true (by omega)
   have q3:=q2 (by omega)
   repeat' (first|(refine zAd ?_;refine zAc xE (cE _) xP rfl (fun _=>?_))|(refine zAq ?_;refine zAb (zAe rfl rfl q3) ?_)|(refine ek_geq ?_;refine zAb (zBk rfl rfl q1) ?_)|refine xst ?_|(refine xsa ?_;intro _)|(refine xsb ?_ ?_ <;>intro _<;>try (exfalso;omega))|refine xsc ?_|fail)
   all_goals (exact xdn ())
end
end Go.Proofs.YtgipenahkmbelaaGreatDoor
