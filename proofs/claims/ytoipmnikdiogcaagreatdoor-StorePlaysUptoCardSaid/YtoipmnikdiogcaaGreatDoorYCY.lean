/-
  BaE, BaW2, Dyn, BaW1, BaW3, RuP.
-/
import Derived.Test.YtoipmnikdiogcaaGreatDoorYCM
import Derived.Test.YtoipmnikdiogcaaGreatDoorYCS
set_option maxHeartbeats 64000000
namespace Go.Proofs.YtoipmnikdiogcaaGreatDoor
open Go Go.RowKit
open Go.Proofs.Tryz
def yD7 (o:BOp):zB:=if o.del then 1::tx o.key else 0::(tx o.key++tx o.val)
def yEt (ops:List BOp):zB:=ops.flatMap yD7
def yBx (ops:List BOp):zB:=vu ops.length++yEt ops
def yEK:List BOp→Bool
 |[]=>true
 |[_]=>true
 |a::b::r=>Op.bytesLess a.key b.key && yEK (b::r)
def yHo (o:BOp):Bool:=!o.del || decide (o.val=[])
def yEu (ops:List BOp):zB × Nat:=if yEK ops=false then ([],4) else if ops.all yHo=false then ([],7) else (yBx ops,0)
theorem risesB_iff:∀ {l:List BOp},yEK l=true↔yDA BOp.key l
 |[]=>⟨fun _=>List.Pairwise.nil,fun _=>rfl⟩
 |[a]=>⟨fun _=>List.pairwise_cons.2 ⟨fun _ h=>absurd h zW,List.Pairwise.nil⟩,fun _=>rfl⟩
 |a::b::r=>by
  unfold yEK;rw [zLw,risesB_iff (l:=b::r)];constructor
  ·rintro ⟨h1,h2⟩
   refine List.pairwise_cons.2 ⟨fun y hy=>?_,h2⟩;rcases zLm.1 hy with e|e
   ·rw [e];exact h1
   ·exact yG1 h1 ((List.pairwise_cons.1 h2).1 y e)
  ·intro h;obtain ⟨h1,h2⟩:=List.pairwise_cons.1 h;exact ⟨h1 b (List.mem_cons_self ..),h2⟩
theorem formB_iff {o:BOp}:yHo o=true↔o.nrm=o:=by
 obtain ⟨d,k,v⟩:=o;unfold yHo BOp.nrm;cases d
 ·simp
 ·simp [eq_comm]
def yIv (first:Bool) (last:zB):zB→Rd BOp
 |[]=>.bad 1
 |b::t=>if 1<b.toNat then .bad 7 else match rtx 2147483647 t with
  |.bad e=>.bad e
  |.ok k t=>if first=false∧Op.bytesLess last k=false then .bad 4 else if b.toNat=1 then .ok ⟨true,k,[]⟩ t else match rtx 2147483647 t with
   |.bad e=>.bad e
   |.ok v t=>.ok ⟨false,k,v⟩ t
def yDU:Nat→Bool→zB→zB→Rd (List BOp)
 |0,_,_,l=>.ok [] l
 |n+1,first,last,l=>match yIv first last l with
  |.bad e=>.bad e
  |.ok o t=>match yDU n false o.key t with
   |.bad e=>.bad e
   |.ok os t=>.ok (o::os) t
def yAV (s:zB):List BOp × Nat:=match ru s with
 |.bad e=>([],e)
 |.ok n t=>match yDU n true [] t with
  |.bad e=>([],e)
  |.ok os t=>if t=[] then (os,0) else ([],5)
theorem yPN:∀ (l:zB) (i an e:Nat),ruG l i an=.bad e→e≠0
 |[],_,_,_,h=>by cases h;decide
 |b::l,i,an,e,h=>by
  unfold ruG at h;split at h
  ·cases h;decide
  split at h
  ·split at h
   ·cases h;decide
   ·cases h
  ·exact yPN l _ _ _ h
theorem yUS {most:Nat} {l:zB} {e:Nat} (h:rtx most l=.bad e):e≠0:=by
 unfold rtx at h;cases hr:ru l with
 |bad e'=>rw [hr] at h;cases h;exact yPN l 0 0 _ hr
 |ok n t=>
  rw [hr] at h;dsimp only at h;split at h
  ·cases h;decide
  split at h
  ·cases h;decide
  ·cases h
theorem yXm {f:Bool} {last l:zB} {e:Nat} (h:yIv f last l=.bad e):e≠0:=by
 cases l with
 |nil=>cases h;decide
 |cons b l=>
  unfold yIv at h;dsimp only at h;split at h
  ·cases h;decide
  ·cases hk:rtx 2147483647 l with
   |bad e'=>rw [hk] at h;cases h;exact yUS hk
   |ok k t=>
    rw [hk] at h;dsimp only at h;split at h
    ·cases h;decide
    split at h
    ·cases h
    ·cases hv:rtx 2147483647 t with
     |bad e'=>rw [hv] at h;cases h;exact yUS hv
     |ok v t=>rw [hv] at h;cases h
theorem yOb:∀ (n:Nat) {f:Bool} {last l:zB} {e:Nat},yDU n f last l=.bad e→e≠0
 |0,_,_,_,_,h=>by cases h
 |n+1,f,last,l,e,h=>by
  unfold yDU at h;cases ho:yIv f last l with
  |bad e'=>rw [ho] at h;cases h;exact yXm ho
  |ok o t=>
   rw [ho] at h;dsimp only at h;cases hr:yDU n false o.key t with
   |bad e'=>rw [hr] at h;cases h;exact yOb n hr
   |ok os t2=>rw [hr] at h;cases h
theorem yJi (s:zB):((yAV s).2≠0∧(yAV s).1=[])∨∃ n t os,ru s=.ok n t∧yDU n true [] t=.ok os []∧yAV s=(os,0):=by
 unfold yAV;cases hr:ru s with
 |bad e=>exact .inl ⟨yPN s 0 0 _ hr,rfl⟩
 |ok n t=>
  dsimp only;cases ho:yDU n true [] t with
  |bad e=>exact .inl ⟨yOb n ho,rfl⟩
  |ok os t2=>
   dsimp only;split
   ·rename_i e;subst e;exact .inr ⟨n,t,os,rfl,ho,rfl⟩
   ·exact .inl ⟨by decide,rfl⟩
theorem yKr {f:Bool} {last l t:zB} {o:BOp} (h:yIv f last l=.ok o t):l=yD7 o++t∧o.nrm=o∧(f=false→Op.bytesLess last o.key=true):=by
 cases l with
 |nil=>cases h
 |cons b l=>
  unfold yIv at h;dsimp only at h;split at h
  ·cases h
  ·rename_i c;cases hk:rtx 2147483647 l with
   |bad e'=>rw [hk] at h;cases h
   |ok k t1=>
    rw [hk] at h;dsimp only at h;split at h
    ·cases h
    ·rename_i c2;have hlt:f=false→Op.bytesLess last k=true:=fun q=>by
      cases e:Op.bytesLess last k with
      |true=>rfl
      |false=>exact absurd ⟨q,e⟩ c2
     obtain ⟨k1,-⟩:=yLK hk;split at h
     ·rename_i c3;cases h;refine ⟨?_,rfl,hlt⟩;show _=(1::tx k)++t;rw [List.cons_append,← k1];congr 1;exact UInt8.toNat.inj c3
     ·rename_i c3;cases hv:rtx 2147483647 t1 with
      |bad e'=>rw [hv] at h;cases h
      |ok v t2=>
       rw [hv] at h;cases h;obtain ⟨v1,-⟩:=yLK hv;refine ⟨?_,rfl,hlt⟩;show _=(0::(tx k++tx v))++t;rw [List.cons_append,zLd,← v1,← k1];congr 1;exact UInt8.toNat.inj (show b.toNat=(0:UInt8).toNat by show b.toNat=0;omega)
theorem yIO:∀ (n:Nat) {f:Bool} {last l t:zB} {os:List BOp},yDU n f last l=.ok os t→l=yEt os++t∧os.length=n∧yDA BOp.key os∧(∀ o ∈ os,o.nrm=o)∧(f=false→∀ o ∈ os,Op.bytesLess last o.key=true)
 |0,_,_,_,_,_,h=>by cases h;exact ⟨rfl,rfl,List.Pairwise.nil,fun _ q=>absurd q zW,fun _ _ q=>absurd q zW⟩
 |n+1,f,last,l,t,os,h=>by
  unfold yDU at h;cases ho:yIv f last l with
  |bad e'=>rw [ho] at h;cases h
  |ok o t1=>
   rw [ho] at h;dsimp only at h;cases hr:yDU n false o.key t1 with
   |bad e'=>rw [hr] at h;cases h
   |ok os' t2=>
    rw [hr] at h;cases h;obtain ⟨a1,a2,a3⟩:=yKr ho;obtain ⟨b1,b2,b3,b4,b5⟩:=yIO n hr;refine ⟨?_,by rw [zLj,b2],List.pairwise_cons.2 ⟨b5 rfl,b3⟩,fun p hp=>?_,fun q p hp=>?_⟩
    ·unfold yEt;rw [zLr,zLd,a1,b1];rfl
    ·rcases zLm.1 hp with e|e
     ·rw [e];exact a2
     ·exact b4 p e
    ·rcases zLm.1 hp with e|e
     ·rw [e];exact a3 q
     ·exact yG1 (a3 q) (b5 rfl p e)
def byC (b:UInt8):List Value:=[bv b]
theorem yE3:EncOk byC 1:=⟨fun _=>rfl,fun b=>by unfold byC bv;exact xO,zO⟩
theorem yPO (l:zB):l.flatMap byC=bvs l:=by
 induction l with
 |nil=>rfl
 |cons b l ih=>rw [zLr,ih];rfl
abbrev byP (v:Value) (l:zB):SP:=lsP byC 5 1 v l
def wrF (p:Nat) (l:zB) (x:Option Addr × Nat):List SP:=[yAj p [.slice x.1 l.length x.2] 221,byP (.slice x.1 l.length x.2) l]
def WrP (p:Nat) (l:zB):SP:=yHl 41 p (wrF p l)
structure ShrF (kd:IntKind) (i s y:Int):Prop where
 h0:0≤s
 h:i.fdiv (2 ^ (min s.toNat kd.bits))=y
theorem yQX {P:Program} {W:World} {n:Nat} {E:Env} {H:List SP} {t u:TypeId} {x y:Operand} {kd yk:IntKind} {i j r:Int} (hx:Env.ev E x=some (.int kd i)) (hy:Env.ev E y=some (.int yk j)) (h:ShrF kd i j r):Ev P W n E H (.binOp .shr t x y u) (.int kd r):=by have q:=h.h;subst q;exact yTG hx hy h.h0
structure OrF (kd:IntKind) (i j y:Int):Prop where
 h:bits .or kd i j=y
theorem yCT {P:Program} {W:World} {n:Nat} {E:Env} {H:List SP} {t u:TypeId} {x y:Operand} {kd:IntKind} {i j r:Int} (hx:Env.ev E x=some (.int kd i)) (hy:Env.ev E y=some (.int kd j)) (h:OrF kd i j r):Ev P W n E H (.binOp .or t x y u) (.int kd r):=by have q:=h.h;subst q;exact yZH hx hy
theorem xCV (x:Nat):OrF .u8 ((x % 256:Nat):Int) 128 ((UInt8.ofNat (x % 128+128)).toNat:Int):=by
 refine ⟨?_⟩;have key:∀ y:Fin 256,bits .or .u8 ((y.val:Nat):Int) 128=((UInt8.ofNat (y.val % 128+128)).toNat:Int):=by decide +kernel
 have:=key ⟨x % 256,zO⟩;rw [this];have e:x % 256 % 128=x % 128:=zO;show ((UInt8.ofNat (x % 256 % 128+128)).toNat:Int)=_;rw [e]
theorem KJ.wrOpen {W:World} {n:Nat} {k:KK} {E:Env} {H R:List SP} {p:Nat} {l:zB} (q:Sel (WrP p l) H R) (h:∀ a c,KJ W n k E (yAj p [.slice a l.length c] 221::byP (.slice a l.length c) l::R)):KJ W n k E H:=KJ.unpack_at q fun x=>h x.1 x.2
theorem yKs (x:Nat):IntKind.u8.wrap (x:Int)=((x % 256:Nat):Int):=by simp [IntKind.wrap,IntKind.signed,IntKind.bits]
theorem yUT (x:Nat):((x % 256:Nat):Int)=((UInt8.ofNat x).toNat:Int):=by rw [UInt8.toNat_ofNat']
theorem xDo (x:Nat):ShrF .u64 (x:Int) 7 ((x / 128:Nat):Int):=by refine ⟨zO,?_⟩;show (x:Int).fdiv 128=_;rw [Int.fdiv_eq_ediv_of_nonneg _ zO];omega
theorem yUU {f x:Nat} (h:x<128):vuF (f+1) x=[UInt8.ofNat x]:=by unfold vuF;rw [if_pos h]
theorem yZT {f x:Nat} (h:¬ x<128):vuF (f+1) x=UInt8.ofNat (x % 128+128)::vuF f (x / 128):=by rw [vuF,if_neg h]
def VuI (l0:zB) (x0:Nat) (i:zB × Nat × Nat):Prop:=i.1++vuF (i.2.2+1) i.2.1=l0++vu x0∧i.2.1<128 ^ (i.2.2+1)∧i.2.1≤x0∧l0.length≤i.1.length
theorem VuI.start (l:zB) {x:Nat} (hx:x<18446744073709551616):VuI l x (l,x,9):=⟨rfl,by show x<128 ^ 10;omega,Nat.le_refl _,Nat.le_refl _⟩
theorem VuI.next {l0 l:zB} {x0 x f:Nat} (h:VuI l0 x0 (l,x,f)) (hx:¬ x<128):∃ f',f=f'+1∧VuI l0 x0 (l++[UInt8.ofNat (x % 128+128)],x / 128,f'):=by
 obtain ⟨h1,h2,h3,h4⟩:=h;dsimp only at h1 h2 h3 h4;cases f with
 |zero=>simp at h2;omega
 |succ f=>
  refine ⟨f,rfl,?_,?_,?_,?_⟩
  ·dsimp only;rw [yZT hx] at h1;rw [zLd];exact h1
  ·dsimp only;rw [Nat.pow_succ] at h2;exact Nat.div_lt_of_lt_mul (by rw [Nat.mul_comm];exact h2)
  ·dsimp only;omega
  ·dsimp only;rw [zLa];omega
theorem VuI.last {l0 l:zB} {x0 x f:Nat} (h:VuI l0 x0 (l,x,f)) (hx:x<128):l++[UInt8.ofNat x]=l0++vu x0:=by have h1:=h.1;dsimp only at h1;rw [yUU hx] at h1;exact h1
theorem VuI.len {l0:zB} {x0:Nat} {i:zB × Nat × Nat} (h:VuI l0 x0 i):i.1.length+1≤l0.length+(vu x0).length:=by have:=congrArg List.length h.1;rw [zLa,zLa] at this;have:=yUN i.2.2 i.2.1;omega
theorem yCe (x:Nat):(vu x).length≤10:=yQR 10 x
theorem yCG (x:Nat):1≤(vu x).length:=yUN 9 x
section
variable {W:World} {p:Nat} {l:zB}
theorem yKt:Ct prog W 101 [] [] (fun p:Nat=>(zPp p)) (fun p=>[WrP p []]):=by
 refine yXl (fun _=>((none:Option Addr),(0:Nat))) ?_;refine zE func101 ntmps101 fun R=>?_;repeat' (first|refine zbx fun g=>?_|refine xst ?_|refine xsf ?_ ?_|intro _)
 all_goals refine KJ.nilrow 5 1 ?_
 all_goals (exact xdn g)
theorem yD8 (x:Nat) (hx:x<18446744073709551616) (hl:l.length+10≤140737488355328):CtU prog W 102 [zPp p,.int .u64 (x:Nat)] [WrP p l] (.tuple #[]) [WrP p (l++vu x)]:=by
 refine zE func102 ntmps102 fun R=>?_;repeat' (first|refine xst ?_|refine xsf ?_ ?_|intro _)
 refine yAC (fun i:{i:zB × Nat × Nat//VuI l x i}=>[(0,zPp p),(1,.int .u64 (i.1.2.1:Nat))])
  (fun i=>[WrP p i.1.1]++R) (fun i=>i.1.2.2) ⟨(l,x,9),VuI.start l hx⟩ xB (xN) (fun ⟨(l',y,f),hi⟩=>?_)
 dsimp only;have ai:=hi.len;have hv:=yCe x;dsimp only at ai;refine KJ.wrOpen xS (fun a c=>?_);have b1:(l'.length+1)*1≤140737488355328:=zO;have b2:l'.length+1≤9223372036854775807:=zO;by_cases hlt:y<128
 ·have ql:decide ((128:Int)≤(y:Nat))=false:=zZ zO;have e1:IntKind.u8.wrap ((y:Nat):Int)=((UInt8.ofNat y).toNat:Int):=by rw [yKs,yUT]
  repeat' (first|refine yAQ ?_;refine yBm (a:=UInt8.ofNat y) yE3 rfl rfl rfl xS xS b1 b2 rfl (fun g' c'=>?_)|refine yAD ?_;refine yAK rfl xF (by rfl) zO rfl (fun gb=>?_)|refine xqb ?_|refine xsf ?_ ?_|intro _)
  all_goals rw [hi.last hlt]
  all_goals refine KJ.packs (tag:=41) (key:=p) (F:=wrF p (l++vu x)) (some ⟨g',0,none⟩,c') xP ?_
  all_goals (exact xdn ())
 ·have ql:decide ((128:Int)≤(y:Nat))=true:=zY zO;obtain ⟨f',rfl,hn⟩:=hi.next hlt;repeat' (first|refine yAQ ?_;refine yBm (a:=UInt8.ofNat (y % 128+128)) yE3 rfl rfl rfl xS xS b1 b2 rfl (fun g' c'=>?_)|refine yAD ?_;refine yAK rfl xF (by rfl) zO rfl (fun gb=>?_)|refine yAu ?_;refine yAa (yAg rfl (yKs y)) ?_|refine yFp ?_;refine yAa (yCT rfl rfl (xCV y)) ?_|refine yLE ?_;refine yAa (yQX rfl rfl (xDo y)) ?_|refine xqb ?_|refine xsf ?_ ?_|intro _)
  all_goals refine KJ.packs (tag:=41) (key:=p) (F:=wrF p (l'++[UInt8.ofNat (y % 128+128)])) (some ⟨g',0,none⟩,c') xP ?_
  all_goals refine yAs ⟨(l'++[UInt8.ofNat (y % 128+128)],y / 128,f'),hn⟩ (by show f'<f'+1;omega) xB (xN)
theorem yQY (b:UInt8) (hl:l.length+1≤140737488355328):CtU prog W 117 [zPp p,bv b] [WrP p l] (.tuple #[]) [WrP p (l++[b])]:=by
 refine zE func117 ntmps117 fun R=>?_;refine KJ.wrOpen xS (fun a c=>?_);have b1:(l.length+1)*1≤140737488355328:=zO;have b2:l.length+1≤9223372036854775807:=zO;repeat' (first|refine yAQ ?_;refine yBm (a:=b) yE3 rfl rfl rfl xS xS b1 b2 rfl (fun g' c'=>?_)|refine yAD ?_;refine yAK rfl xF (by rfl) zO rfl (fun gb=>?_)|refine xst ?_|refine xsf ?_ ?_|intro _)
 all_goals refine KJ.packs (tag:=41) (key:=p) (F:=wrF p (l++[b])) (some ⟨g',0,none⟩,c') xP ?_
 all_goals (exact xdn ())
end
section
variable {P:Program} {W:World} {n d:Nat} {E:Env} {H R:List SP} {k:KK} {dd:Option Tmp} {X:Type}
theorem yUV {o:Oper} {f:FuncId} {x:Operand} {xs:List Operand} {ts:Array TypeId} {vs:List Value} {fs cs:Array Value} (ho:o.op=.call { callee:=.value x,args:=xs.toArray,argTypes:=ts }) (h0:Env.ev E x=some (.func (.func f) fs cs)) (hx:Evs E xs vs) [hf:FnIs P f] {a:Act} (p:Hd n E a) (w:World):(execOp a.eval o).run P w=.ok (.enter f (fs++vs.toArray++cs)) w:=by
 have hf:=hf.h;cases hq:P.funcs[f]? with
 |none=>simp [hq] at hf
 |some fn=>
  simp [hq] at hf;obtain ⟨h1,h2⟩:=hf;have e:a.eval x=.func (.func f) fs cs:=p.ev h0;have hb:¬ fn.body=none:=by cases h:fn.body <;> simp_all
  have hv:=p.evs hx;simp [execOp,ho,resolve,e,Deferred.ofValue,invoke,callFunc,Go.program,Sem.run,hq,h2,hb,hv,Result.andThen]
theorem KJ_callV' {f:FuncId} {x:Operand} {xs:List Operand} {ts:Array TypeId} {vs us:List Value} {fs cs:Array Value} {Hpre:List SP} {r:X→Value} {Hp:X→List SP} (h0:Env.ev E x=some (.func (.func f) fs cs)) (hx:Evs E xs vs) (hu:us=fs.toList++vs++cs.toList) [hf:FnIs P f] (hc:Ct P W f us Hpre r Hp) (hp:Pick Hpre H R) (hn:yFW n dd=true) (h:∀ c,KJ W n k (Env.put E dd (r c)) (Hp c++R)):KJ W n (.oper P (.call { callee:=.value x,args:=xs.toArray,argTypes:=ts }) dd k) E H:=by
 refine ⟨fun a w p s o ho hd=>?_⟩;subst hd;show uponP P o a _ ((execOp a.eval o).run P w);rw [yUV ho h0 hx p w];have e:fs++vs.toArray++cs=us.toArray:=by rw [hu];apply Array.ext';simp
 rw [e];refine (hc.go (R++dm a.defers) w (s.perm ((hp.perm.append_right _).trans (by rw [zLd])))).mono ?_
 rintro e w' ⟨c,rfl,s⟩
 refine ⟨_,rfl,(h c).go _ w' (p.put hn _) ?_⟩;show St W (_++dm (a.put o.dst _).defers) w';rw [yB9,zLd];exact s
theorem yH2 {f:FuncId} {x:Operand} {xs:List Operand} {ts:Array TypeId} {vs us:List Value} {fs cs:Array Value} {Hpre:List SP} {r:X→Value} {Hp:X→List SP} (h0:Env.ev E x=some (.func (.func f) fs cs)) (hx:Evs E xs vs) (hu:us=fs.toList++vs++cs.toList) [hf:FnIs P f] (hc:Ct P W f us Hpre r Hp) (hp:Pick Hpre H R) (hn:Nat.blt d n=true) (h:∀ c,KJ W n k ((d,r c)::E) (Hp c++R)):KJ W n (.oper P (.call { callee:=.value x,args:=xs.toArray,argTypes:=ts }) (some d) k) E H:=
 KJ_callV' h0 hx hu hc hp hn h
end
def opC (o:BOp):List Value:=[.bool o.del,strV o.key,strV o.val]
def opV (o:BOp):Value:=.agg (opC o).toArray
theorem yAY:EncOk opC 3:=⟨fun _=>rfl,fun x=>by unfold opC;exact xO,zO⟩
instance:Inhabited BOp:=⟨⟨false,[],[]⟩⟩
theorem yUW:KyOk prog 9 strV:=xBB underlying9
abbrev BMap:=List (zB × BOp)
def MapOk (ops:List BOp) (m:BMap):Prop:=(m.map (·.1)).Nodup∧∀ k,lk m k=yBE ops k
theorem MapOk.nil:MapOk [] []:=⟨List.nodup_nil,fun _=>rfl⟩
theorem MapOk.put {ops:List BOp} {m:BMap} (h:MapOk ops m) (o:BOp):MapOk (ops++[o]) (ySj m o.key o.nrm):=
 ⟨ySl h.1 _ _,fun k=>by
  rw [xBC,ySo,h.2];by_cases e:k=o.key
  ·rw [if_pos e,if_pos e.symm]
  ·rw [if_neg e,if_neg (fun q=>e q.symm)]⟩
theorem MapOk.len {ops:List BOp} {m:BMap} (h:MapOk ops m):m.length≤ops.length:=by
 have key:∀ (l:List BOp) (k:zB) (x:BOp),yBE l k=some x→∃ o ∈ l,o.key=k:=by
  intro l
  induction l with
  |nil=>intro k x h;cases h
  |cons o r ih=>
   intro k x h;rw [yBE] at h;cases e:yBE r k with
   |some y=>obtain ⟨o',h1,h2⟩:=ih k y e;exact ⟨o',by simp [h1],h2⟩
   |none=>
    rw [e,Option.none_or] at h;split at h
    ·rename_i hk;exact ⟨o,by simp,hk⟩
    ·cases h
 have:=yOa (l:=m.map (·.1)) (r:=ops.map BOp.key) h.1 (fun k hk=>by obtain ⟨p,hp,rfl⟩:=List.mem_map.1 hk;have h1:=ySk h.1 hp;rw [h.2] at h1;obtain ⟨o,h2,h3⟩:=key _ _ _ h1;exact List.mem_map.2 ⟨o,h2,h3⟩)
 simpa using this
theorem yM1 {γ:Type} {f:γ→zB} {l:List γ} (h:l.Pairwise fun x y=>Op.bytesLess (f y) (f x)=false) (hn:(l.map f).Nodup):yDA f l:=by
 induction l with
 |nil=>exact List.Pairwise.nil
 |cons x l ih=>
  obtain ⟨h1,h2⟩:=List.pairwise_cons.1 h;simp only [List.map_cons,List.nodup_cons] at hn;exact List.pairwise_cons.2 ⟨fun y hy=>yKl (h1 y hy) (fun e=>hn.1 (e ▸ List.mem_map.2 ⟨y,hy,rfl⟩)),ih h2 hn.2⟩
theorem yAx (x:Nat) (h:x<18446744073709551616):IntKind.u64.wrap (x:Int)=(x:Int):=by simp only [IntKind.wrap,IntKind.signed,IntKind.bits];simp;omega
theorem yHp (a c:zB):(Op.bytesLess a c || decide (a=c))=!Op.bytesLess c a:=by
 by_cases e:a=c
 ·subst e;simp [yDi]
 ·cases h:Op.bytesLess a c with
  |true=>simp [yGb h]
  |false=>simp [yKl h e,e]
def AdjTo (ops:List BOp) (i:Nat):Prop:=∀ j a b,j+1<i→ops[j]? = some a→ops[j+1]? = some b→Op.bytesLess a.key b.key=true
theorem AdjTo.one (ops:List BOp):AdjTo ops 1:=fun j a b h=>absurd h zO
theorem AdjTo.next {ops:List BOp} {i:Nat} (h:AdjTo ops (i+1)) {a b:BOp} (ha:ops[i]? = some a) (hb:ops[i+1]? = some b) (hl:Op.bytesLess a.key b.key=true):AdjTo ops (i+1+1):=fun j x y hj hx hy=>by
 by_cases e:j=i
 ·subst e;rw [ha] at hx;rw [hb] at hy;cases hx;cases hy;exact hl
 ·exact h j x y zO hx hy
theorem AdjTo.rises:∀ {ops:List BOp},AdjTo ops ops.length→yEK ops=true
 |[],_=>rfl
 |[_],_=>rfl
 |a::b::r,h=>by unfold yEK;rw [h 0 a b zW rfl rfl,Bool.true_and];exact AdjTo.rises (ops:=b::r) fun j x y hj hx hy=>h (j+1) x y (by simp at hj ⊢;omega) hx hy
theorem yOc {ops:List BOp} {j:Nat} {a b:BOp} (ha:ops[j]? = some a) (hb:ops[j+1]? = some b) (hl:Op.bytesLess a.key b.key=false):yEK ops=false:=by
 cases h:yEK ops with
 |false=>rfl
 |true=>
  have hr:=risesB_iff.1 h;obtain ⟨h1,e1⟩:=zLc.1 ha;obtain ⟨h2,e2⟩:=zLc.1 hb;have:=List.pairwise_iff_getElem.1 hr j (j+1) h1 h2 zO;rw [e1,e2,hl] at this;cases this
theorem yJj {ops:List BOp} (h:yEK ops=false):yEu ops=([],4):=by unfold yEu;rw [if_pos h]
theorem yKu {ops:List BOp} (h:yEK ops=true) {i:Nat} {o:BOp} (ho:ops[i]? = some o) (hf:yHo o=false):yEu ops=([],7):=by
 unfold yEu;rw [if_neg (by rw [h];decide),if_pos];cases e:ops.all yHo with
 |false=>rfl
 |true=>rw [List.all_eq_true.1 e o (zLk ho)] at hf;cases hf
theorem yOd {ops:List BOp} (h:yEK ops=true) (hf:∀ i o,ops[i]? = some o→i<ops.length→yHo o=true):yEu ops=(yBx ops,0):=by
 unfold yEu;rw [if_neg (by rw [h];decide),if_neg];rw [List.all_eq_true.2 fun o ho=>by obtain ⟨i,hi⟩:=List.mem_iff_getElem?.1 ho;exact hf i o hi (zLc.1 hi).1]
 decide
def yE4 (ops:List BOp) (i:Nat):zB:=vu ops.length++yEt (ops.take i)
theorem yLN (ops:List BOp):yE4 ops 0=vu ops.length:=by simp [yE4,yEt]
theorem yIP {ops:List BOp} {i:Nat} {o:BOp} (h:ops[i]? = some o):yE4 ops (i+1)=yE4 ops i++yD7 o:=by unfold yE4 yEt;rw [List.take_add_one,h,zLd];simp
theorem yKv (ops:List BOp):yE4 ops ops.length=yBx ops:=by unfold yE4 yBx;rw [List.take_length]
theorem yOe {ops:List BOp} {i:Nat} {o:BOp} (h:ops[i]? = some o):(yE4 ops i).length+(yD7 o).length≤(yBx ops).length:=by
 have e:yBx ops=yE4 ops (i+1)++yEt (ops.drop (i+1)):=by unfold yE4 yBx yEt;rw [zLd,← List.flatMap_append,zLu]
 rw [e,yIP h];simp
theorem yUX (ops:List BOp) (i:Nat):1≤(yE4 ops i).length:=by have:=yCG ops.length;unfold yE4;simp;omega
theorem yH3 (k v:zB):yD7 ⟨true,k,v⟩=1::tx k:=rfl
theorem yH4 (k v:zB):yD7 ⟨false,k,v⟩=0::(tx k++tx v):=rfl
theorem yJk (s:zB):s.length+1≤(tx s).length:=by have:=yCG s.length;unfold tx;rw [zLa];omega
section
variable {P:Program} {W:World} {n d:Nat} {E:Env} {H H' R R':List SP} {k:KK} {t u e:TypeId} {x y z:Operand} {b off c:Nat}
theorem yGJ {v:Value} {l m:zB} (hx:Env.ev E x=some v) (hy:Env.ev E y=some (strV m)) [hu:UIs P t (.slice e)] [hstr:UIs P u .string] [hs:SzIs P e 1] [hb:ByIs P e 1] [hz:ZcIs P e [.int .u8 0]] (ap:Sel (lsP byC e 1 v l) H R) (ao:m≠[]∨v.ownBlock.isSome=true) (fO:l.length+m.length≤140737488355328) (hn:Nat.blt d n=true) (h:∀ g c,KJ W n k ((d,.slice (zq g) (l++m).length c)::E) (lsP byC e 1 (.slice (zq g) (l++m).length c) (l++m)::R)):KJ W n (.oper P (.call { callee:=.builtin .append,args:=#[x,y],argTypes:=#[t,u] }) (some d) k) E H:=by
 refine yED (hu:=hu) (hstr:=hstr) (hs:=hs) (hb:=hb) (hz:=hz) hx hy ap ao fO hn (fun g c=>?_);have:=h g c;unfold lsP at this;rw [yPO,zLa] at this;rw [yPO];have e:bvs (l++m)=bvs l++bvs m:=by simp [bvs]
 rw [e] at this;exact this
theorem yOf {s u:TypeId} {g m:Nat} {l:zB} (hx:Env.ev E x=some (.slice (zq g) m c)) [hs:UIs P s (.slice e)] [he:UIs P e (.int .u8)] [hd:UIs P u .string] (ap:Sel (lsP byC e 1 (.slice (zq g) m c) l) H R) (hm:m=l.length):Ev P W n E H (.convert s u x) (strV l):=by subst hm;unfold lsP at ap;rw [yPO] at ap;exact yFr (hs:=hs) (he:=he) (hd:=hd) hx ap
end
section
variable {W:World} {p:Nat} {l:zB}
theorem yH5 (m:zB) (hl:l.length+m.length+10≤140737488355328):CtU prog W 118 [zPp p,strV m] [WrP p l] (.tuple #[]) [WrP p (l++tx m)]:=by
 have cu:=yD8 (W:=W) (p:=p) (l:=l) m.length zO zO;have e1:IntKind.u64.wrap ((m.length:Nat):Int)=((m.length:Nat):Int):=yAx _ zO;have hv:=yCe m.length;have hp:=yCG m.length;have fO:(l++vu m.length).length+m.length≤140737488355328:=by rw [zLa];omega
 refine zE func118 ntmps118 fun R=>?_;repeat' (first|refine xca cu fun _=>?_;refine KJ.wrOpen xS (fun a c=>?_);refine KJ.lsSome xS (by rw [zLa];omega) (fun g hg=>?_);subst hg|refine yAQ ?_;refine yGJ rfl rfl xS (.inr rfl) fO rfl (fun g' c'=>?_)|refine xqb ?_|refine xsf ?_ ?_|intro _)
 all_goals rw [zLd]
 all_goals refine KJ.packs (tag:=41) (key:=p) (F:=wrF p (l++tx m)) (some ⟨g',0,none⟩,c') xP ?_
 all_goals (exact xdn ())
theorem yKw (hl:0<l.length):CtU prog W 105 [zPp p] [WrP p l] (strV l) [WrP p l]:=by
 refine zE func105 ntmps105 fun R=>?_;refine KJ.wrOpen xS (fun a c=>?_);refine KJ.lsSome xS hl (fun g hg=>?_);subst hg;repeat' (first|refine yAu ?_;refine yAa (yOf rfl xS rfl) ?_|refine xst ?_|refine xsf ?_ ?_|intro _)
 all_goals refine KJ.packs (tag:=41) (key:=p) (F:=wrF p l) (some ⟨g,0,none⟩,c) xP ?_
 all_goals (exact xdn ())
end
structure AndF (kd:IntKind) (i j y:Int):Prop where
 h:bits .and kd i j=y
theorem yFC {P:Program} {W:World} {n:Nat} {E:Env} {H:List SP} {t u:TypeId} {x y:Operand} {kd:IntKind} {i j r:Int} (hx:Env.ev E x=some (.int kd i)) (hy:Env.ev E y=some (.int kd j)) (h:AndF kd i j r):Ev P W n E H (.binOp .and t x y u) (.int kd r):=by have q:=h.h;subst q;exact yYE hx hy
structure ShlF (kd:IntKind) (i s y:Int):Prop where
 h0:0≤s
 h:kd.wrap (i*2 ^ (min s.toNat kd.bits))=y
theorem yBI {P:Program} {W:World} {n:Nat} {E:Env} {H:List SP} {t u:TypeId} {x y:Operand} {kd yk:IntKind} {i j r:Int} (hx:Env.ev E x=some (.int kd i)) (hy:Env.ev E y=some (.int yk j)) (h:ShlF kd i j r):Ev P W n E H (.binOp .shl t x y u) (.int kd r):=by have q:=h.h;subst q;exact yTF hx hy h.h0
theorem yKx (b:UInt8):AndF .u8 (b.toNat:Int) 127 ((b.toNat % 128:Nat):Int):=by
 refine ⟨?_⟩;have key:∀ y:Fin 256,bits .and .u8 ((y.val:Nat):Int) 127=((y.val % 128:Nat):Int):=by decide +kernel
 exact key ⟨b.toNat,zLy b⟩
theorem yLO (y i:Nat) (hi:i≤9) (hy:y*2 ^ (7*i)<18446744073709551616):ShlF .u64 (y:Int) ((7*i:Nat):Int) ((y*2 ^ (7*i):Nat):Int):=by
 refine ⟨zO,?_⟩;have hm:min ((7*i:Nat):Int).toNat IntKind.u64.bits=7*i:=by show min ((7*i:Nat):Int).toNat 64=7*i;omega
 rw [hm];have e2:((y:Int)*2 ^ (7*i))=((y*2 ^ (7*i):Nat):Int):=zW;rw [e2];exact yAx _ hy
theorem or7 (x y i:Nat) (hx:x<2 ^ (7*i)) (hs:y*2 ^ (7*i)+x<18446744073709551616):OrF .u64 (x:Int) ((y*2 ^ (7*i):Nat):Int) ((x+y*2 ^ (7*i):Nat):Int):=by
 refine ⟨?_⟩;obtain ⟨z,hz⟩:∃ z,z=y*2 ^ (7*i):=⟨_,rfl⟩;have fy:x ||| z=x+z:=by rw [hz,Nat.or_comm,Nat.mul_comm,← Nat.two_pow_add_eq_or_of_lt hx,Nat.add_comm]
 rw [← hz] at hs ⊢;have e:bits .or .u64 (x:Int) (z:Int)=IntKind.u64.wrap ((BitVec.ofInt 64 (x:Int) ||| BitVec.ofInt 64 (z:Int)).toNat:Int):=rfl;have b1:(BitVec.ofInt 64 (x:Int)).toNat=x:=by rw [BitVec.toNat_ofInt];omega
 have b2:(BitVec.ofInt 64 (z:Int)).toNat=z:=by rw [BitVec.toNat_ofInt];omega
 rw [e,BitVec.toNat_or,b1,b2,fy];exact yAx _ zO
structure RuI (l:zB) (i x:Nat):Prop where
 go:ruG (l.drop i) i x=ru l
 i9:i≤9
 x7:x<2 ^ (7*i)
 il:i≤l.length
theorem RuI.start (l:zB):RuI l 0 0:=⟨rfl,zO,by simp,zO⟩
theorem yJB {l:zB} {i:Nat} {b:UInt8} (hb:l[i]? = some b):l.drop i=b::l.drop (i+1):=by obtain ⟨h1,h2⟩:=zLc.1 hb;rw [List.drop_eq_getElem_cons h1,h2]
section
variable {l:zB} {i x:Nat} {b:UInt8}
theorem RuI.short (h:RuI l i x) (hi:l.length≤i):ru l=.bad 1:=by rw [← h.go,zLl hi];rfl
theorem RuI.bad (h:RuI l i x) (hb:l[i]? = some b) (hc:i=9∧1<b.toNat):ru l=.bad 2:=by rw [← h.go,yJB hb];unfold ruG;rw [if_pos hc]
theorem RuI.nought (h:RuI l i x) (hb:l[i]? = some b) (h0:b.toNat=0) (hi:0<i):ru l=.bad 2:=by rw [← h.go,yJB hb];unfold ruG;rw [if_neg zO,if_pos zO,if_pos ⟨h0,hi⟩]
theorem RuI.done (h:RuI l i x) (hb:l[i]? = some b) (hn:¬ (i=9∧1<b.toNat)) (hs:b.toNat<128) (h0:¬ (b.toNat=0∧0<i)):ru l=.ok (x+b.toNat % 128*2 ^ (7*i)) (l.drop (i+1)):=by rw [← h.go,yJB hb];unfold ruG;rw [if_neg hn,if_pos hs,if_neg h0,Nat.mod_eq_of_lt hs]
theorem RuI.fit (h:RuI l i x) (hn:¬ (i=9∧1<b.toNat)):b.toNat % 128*2 ^ (7*i)+x<18446744073709551616:=by
 have hx:=h.x7;have h9:=h.i9;have d6:=zLy b;by_cases e:i=9
 ·subst e;have:b.toNat % 128≤1:=zO;have:=zLt (2 ^ (7*9)) this;omega
 ·have:b.toNat % 128≤127:=by omega
  have:=zLt (2 ^ (7*i)) this;have:(2:Nat) ^ (7*i)≤2 ^ (7*8):=Nat.pow_le_pow_right zO zO;omega
theorem RuI.next (h:RuI l i x) (hb:l[i]? = some b) (hn:¬ (i=9∧1<b.toNat)) (hs:¬ b.toNat<128):RuI l (i+1) (x+b.toNat % 128*2 ^ (7*i)):=by
 have h1:=(zLc.1 hb).1;have h9:=h.i9;refine ⟨?_,zO,?_,zO⟩
 ·rw [← h.go,yJB hb]
  conv=>rhs;unfold ruG
  rw [if_neg hn,if_neg hs]
 ·have hx:=h.x7;have:b.toNat % 128≤127:=zO;have:=zLt (2 ^ (7*i)) this;have e:(2:Nat) ^ (7*(i+1))=128*2 ^ (7*i):=by rw [Nat.mul_add,Nat.pow_add,Nat.mul_comm]
  omega
theorem RuI.len {z:Nat} {j:Nat} (h:ru l=.ok z (l.drop j)) (hj:j≤l.length):(vu z).length=j:=by have:=congrArg List.length (yHV h).1;rw [zLa,zLf] at this;omega
end
theorem yDs {s t:zB} {a x:Nat} (h:ru (s.drop a)=.ok x t):t=s.drop (a+(vu x).length):=by have e:=(yHV h).1;rw [← List.drop_drop,e,List.drop_left]
theorem yEL {s t:zB} {a x:Nat} (h:ru (s.drop a)=.ok x t):a+(vu x).length≤s.length:=by have e:=congrArg List.length (yHV h).1;have p:=yCG x;rw [zLa,zLf] at e;omega
theorem yD9 {s t y:zB} {m a:Nat} (h:rtx m (s.drop a)=.ok y t):t=s.drop (a+(tx y).length):=by have e:=(yLK h).1;rw [← List.drop_drop,e,List.drop_left]
theorem yFD {s t y:zB} {m a:Nat} (h:rtx m (s.drop a)=.ok y t):a+(tx y).length≤s.length:=by have e:=congrArg List.length (yLK h).1;have p:=yJk y;rw [zLa,zLf] at e;omega
theorem yUY {s t:zB} {f:Bool} {last:zB} {o:BOp} {a:Nat} (h:yIv f last (s.drop a)=.ok o t):t=s.drop (a+(yD7 o).length):=by have e:=(yKr h).1;rw [← List.drop_drop,e,List.drop_left]
theorem yKy (o:BOp):2≤(yD7 o).length:=by have:=yJk o.key;have:=yJk o.val;unfold yD7;split <;> simp only [zLj,zLa] <;> omega
theorem yXn {s t:zB} {f:Bool} {last:zB} {o:BOp} {a:Nat} (h:yIv f last (s.drop a)=.ok o t):a+(yD7 o).length≤s.length:=by have e:=congrArg List.length (yKr h).1;have p:=yKy o;rw [zLa,zLf] at e;omega
theorem yUZ:∀ (l:zB) (i an e:Nat),ruG l i an=.bad e→e=1∨e=2
 |[],_,_,_,h=>by cases h;exact .inl rfl
 |b::t,i,an,e,h=>by
  unfold ruG at h;split at h
  ·cases h;exact .inr rfl
  split at h
  ·split at h
   ·cases h;exact .inr rfl
   ·cases h
  ·exact yUZ t _ _ e h
theorem yDB {l:zB} {e:Nat} (h:ru l=.bad e):e=1∨e=2:=yUZ l 0 0 e h
theorem yES {m:Nat} {l:zB} {e:Nat} (h:rtx m l=.bad e):e=1∨e=2∨e=3:=by
 unfold rtx at h;split at h
 ·rename_i e' he;cases h;rcases yDB he with q|q <;> omega
 split at h
 ·cases h;omega
 split at h
 ·cases h;omega
 ·cases h
theorem yM2 {f:Bool} {last l:zB} {e:Nat} (h:yIv f last l=.bad e):e=1∨e=2∨e=3∨e=4∨e=7:=by
 unfold yIv at h;split at h
 ·cases h;omega
 split at h
 ·cases h;omega
 split at h
 ·rename_i he;cases h;rcases yES he with q|q|q <;> omega
 split at h
 ·cases h;omega
 split at h
 ·cases h
 split at h
 ·rename_i he;cases h;rcases yES he with q|q|q <;> omega
 ·cases h
theorem xqa {A G:Prop} (g:A) (h:Later A→G:=by
 intro h;first
 |(refine xCN ?_
   first
    |(refine yAr ?_;first|refine yAa (yAd rfl rfl zA zO) ?_|refine yAa (yCF rfl rfl zA) ?_)
    |(refine yAu ?_;first|refine yAa (yCP rfl xS zA) ?_|refine yAa (yAg rfl zA) ?_)
    |(refine yAt ?_;first|refine yAa (yBv rfl rfl zA) ?_|refine yAa (yAe rfl rfl zA) ?_|refine yAa (yCM rfl rfl zA) ?_)
    |(refine yAJ ?_;first|refine yAa (yAl rfl rfl zA) ?_|refine yAa (yN9 rfl rfl zA) ?_)
    |(refine yAq ?_;first|refine yAa (yAf rfl rfl zA) ?_|refine yAa (yGc rfl rfl zA) ?_)
    |(refine yAI ?_;first|refine yAa (yAp rfl rfl zO zA) ?_)
    |(refine yBz ?_;first|refine yAa (yBd rfl rfl zA) ?_|refine yAa (yBq rfl rfl zA) ?_)
    |(refine yAi ?_;first|refine yAa (yDC rfl xS zA) ?_|refine yAa (yAm rfl zA) ?_|refine yAa (yCB rfl xS zA) ?_)
    |(refine yAh ?_;first|refine yAa (yAc rfl rfl zA) ?_|refine yAa (yB3 rfl rfl zA) ?_)
    |(refine yTQ ?_;first|refine yAa (yQJ rfl rfl zA) ?_)
    |(refine yDg ?_;first|refine yAa (yCv rfl rfl zA) ?_)
    |(refine yBN ?_;first|refine yAa (yAX rfl rfl zA zO) ?_)
    |(refine yAo ?_;first|refine yAa (yAz rfl rfl zA) ?_|refine yAa (yAn rfl rfl zA) ?_|refine yAa (yBe rfl rfl zA) ?_|refine yAa (yBZ rfl zA) ?_|refine yAa (yEp rfl rfl zA) ?_)
    |(refine yFp ?_;first|refine yAa (yCT rfl rfl zA) ?_)
    |(refine yEm ?_;first|refine yAa (yD5 rfl rfl zO zA) ?_)
    |(refine yBu ?_;first|refine yAa (yBc rfl rfl zO zA) ?_)
    |(refine yCo ?_;first|refine yAa (yBI rfl rfl zA) ?_)
    |(refine yLE ?_;first|refine yAa (yD6 rfl rfl zO zA) ?_)
    |(refine yBb ?_;first|refine yAa (yBh rfl rfl zO zA) ?_|refine yAa (yCp rfl rfl zO zA) ?_)
    |(refine yCj ?_;first|refine yAa (yBl rfl rfl zA zO) ?_)
   exact h.go)
 |exact xst h.go):G:=h ⟨g⟩
end Go.Proofs.YtoipmnikdiogcaaGreatDoor
