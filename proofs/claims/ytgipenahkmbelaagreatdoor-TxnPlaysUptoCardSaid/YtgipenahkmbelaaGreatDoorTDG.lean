/-
  Rng, TbW5, TbW6.
-/
import Derived.Test.YtgipenahkmbelaaGreatDoorTAK
import Derived.RangeFuncIn
import Derived.Test.YtgipenahkmbelaaGreatDoorTDD
import Derived.Laws.MakeOwn
set_option maxHeartbeats 64000000
namespace Go.Proofs.YtgipenahkmbelaaGreatDoor
open Go Go.RowKit
abbrev plTDG0:Pl:=(.op 0 (.op 1 (.op 2 (.op 3 (.op 4 (.op 5 (.ef 6 [] (.op 7 (.op 8 (.op 9 (.op 10 (.op 11 (.op 12 (.op 13 (.op 14 (.op 15 (.op 16 (.ef 17 [] (.op 18 (.op 19 (.op 20 (.op 21 (.op 22 (.op 23 (.op 24 (.op 25 (.ef 26 [] (.op 27 (.op 28 .nil)))))))))))))))))))))))))))))
abbrev yv (l:Nat):Value:=.func (.yield l) #[] #[]
def recP (l:Nat) (st:LoopState) (pe:Option Code) (n:Nat) (E:Env) (ps:Array Tmp) (asg bd:Code):SP:=
 ⟨4,l,fun h=>∃ fn tmps D,h l=some (.loop { state:=st,pending:=pe,fn,tmps,params:=ps,assign:=asg,body:=bd,defers:=D })∧tmps.size=n∧∀ t v,Env.at E t=some v→tmps[t]? = some v⟩
theorem recP_up {l:Nat} {st:LoopState} {pe:Option Code} {n:Nat} {E:Env} {ps:Array Tmp} {asg bd:Code}:∀ h g,Hl.le h g→(recP l st pe n E ps asg bd).ok h→(recP l st pe n E ps asg bd).ok g:=
 fun _ _ le ⟨fn,tmps,D,a,b,c⟩=>⟨fn,tmps,D,le _ _ a,b,c⟩
section
variable {P:Program} {W w:World} {n:Nat} {q:QQ} {k:KK} {E:Env} {H H' R:List SP} {l:Nat} {st:LoopState} {pe:Option Code} {ps:Array Tmp} {asg bd:Code} {X:Type}
theorem St.recd (s:St W H w) (p:Sel (recP l st pe n E ps asg bd) H R):∃ fn tmps D,w.heap[l]? = some (.loop { state:=st,pending:=pe,fn,tmps,params:=ps,assign:=asg,body:=bd,defers:=D })∧tmps.size=n∧∀ t v,Env.at E t=some v→tmps[t]? = some v:=by
 obtain ⟨h,⟨fn,tmps,D,a,b⟩,lies⟩:=s.sel p recP_up
 exact ⟨fn,tmps,D,(lies l _ a).2,b⟩
theorem St.recTurn {st':LoopState} {pe':Option Code} {fn:FuncId} {tmps:Array Value} {D:Nat} (s:St W H w) (p:Sel (recP l st pe n E ps asg bd) H R) (hh:w.heap[l]? = some (.loop { state:=st,pending:=pe,fn,tmps,params:=ps,assign:=asg,body:=bd,defers:=D })) :
 St W (recP l st' pe' n E ps asg bd::R) (w.putObj l (.loop { state:=st',pending:=pe',fn,tmps,params:=ps,assign:=asg,body:=bd,defers:=D })):=by
 have hlt:=(Array.getElem?_eq_some_iff.1 hh).1
 refine St.act (A:=[recP l st pe n E ps asg bd]) (B:=[recP l st' pe' n E ps asg bd]) (H:=R) (s.perm p.perm) rfl rfl rfl (by simp) ?_
 intro h1 ⟨h,_,_,le,_,⟨fn',tmps',D',a,b⟩,_⟩ lies
 have ha:=(lies l _ (le _ _ a)).2
 rw [hh] at ha;cases ha
 refine ⟨Hl.one l _,starL_one ⟨fn,tmps,D,Hl.one_self _ _,b⟩,fun k x hx=>?_,fun k x hx=>?_,fun k _ hn=>World.putObj_heap_other ?_⟩
 ·obtain ⟨rfl,rfl⟩:=Hl.one_some hx;exact World.putObj_heap_same hlt
 ·obtain ⟨rfl,rfl⟩:=Hl.one_some hx;exact .inl ⟨_,le _ _ a⟩
 ·intro e;subst e;rw [le _ _ a] at hn;cases hn
def RPost (W:World) {X:Type} (r:X→Bool) (H':X→List SP) (R:List SP):Ending→World→Prop:=fun e w=>∃ x,e=.returned (.bool (r x))∧St W (H' x++R) w
structure Yt (P:Program) (W:World) (l:Nat) (args:List Value) (Hpre:List SP) {X:Type} (r:X→Bool) (H':X→List SP):Prop where
 go:∀ R w,St W (Hpre++R) w→∃ f tmps asg bd,(Instr.yield l args.toArray).run P w=.ok (.round l f tmps asg bd) w∧RoundIn Fence.wide 0 P l f tmps asg bd w (RPost W r H' R)
theorem KJ_yield {x:Operand} {xs:List Operand} {ts:Array TypeId} {vs:List Value} {dd:Option Tmp} {Hpre:List SP} {r:X→Bool} {Hp:X→List SP} (hf:Env.ev E x=some (yv l)) (hx:Evs E xs vs) (hc:Yt P W l vs Hpre r Hp) (hp:Pick Hpre H R) (hn:dstOk n dd=true)
 (h:∀ c,KJ W n k (Env.put E dd (.bool (r c))) (Hp c++R)):KJ W n (.oper P (.call { callee:=.value x,args:=xs.toArray,argTypes:=ts }) dd k) E H:=by
 refine ⟨fun a w p s o ho hd=>?_⟩
 subst hd
 show uponP P o a _ ((execOp a.eval o).run P w)
 obtain ⟨f,tmps,asg,bd,hy,hr⟩:=hc.go (R++dm a.defers) w (s.perm ((hp.perm.append_right _).trans (by rw [List.append_assoc])))
 have hv:=p.evs hx
 have hrun:(execOp a.eval o).run P w=.ok (.round l f tmps asg bd) w:=by
  have:(execOp a.eval o).run P w=(Instr.yield l vs.toArray).run P w:=by
   simp [execOp,ho,resolve,p.ev hf,Deferred.ofValue,invoke,hv,callFunc]
  rw [this,hy]
 rw [hrun]
 refine RoundIn.mono hr ?_
 rintro e w' ⟨c,rfl,s⟩
 refine ⟨_,rfl,(h c).go _ w' (p.put hn _) ?_⟩
 show St W (_++dm (a.put o.dst _).defers) w'
 rw [put_defers,List.append_assoc];exact s
theorem Yt.frame {args:List Value} {Hpre:List SP} {r:X→Bool} {Hp:X→List SP} (h:Yt P W l args Hpre r Hp) (F:List SP):Yt P W l args (Hpre++F) r (fun x=>Hp x++F):=
 ⟨fun R w s=>by
  obtain ⟨f,tmps,asg,bd,h1,h2⟩:=h.go (F++R) w (by rw [← List.append_assoc];exact s)
  exact ⟨f,tmps,asg,bd,h1,h2.mono fun e w' ⟨x,he,s⟩=>⟨x,he,by rw [List.append_assoc];exact s⟩⟩⟩
theorem Pick.all (H:List SP):Pick H H []:=by
 induction H with
 |nil=>exact .nil
 |cons A H ih=>exact .cons .here ih
def Env.ofPs:List Tmp→List Value→Env→Env
 |p::ps,v::vs,E=>Env.ofPs ps vs ((p,v)::E)
 |_,_,E=>E
theorem Hd.ofPs:∀ (ps:List Tmp) (vs:List Value) (E:Env) (tmps:Array Value),(∀ p ∈ ps,p<n)→tmps.size=n→(∀ t v,Env.at E t=some v→tmps[t]? = some v)→
 Hd n (Env.ofPs ps vs E) { tmps:=(ps.zip vs).foldl (fun t (p,v)=>t.setIfInBounds p v) tmps,defers:=[] }
 |[],vs,E,tmps,_,h1,h2=>⟨by simpa using h1,fun t v q=>by simpa using h2 t v (by simpa [Env.ofPs] using q)⟩
 |p::ps,[],E,tmps,_,h1,h2=>⟨by simpa using h1,fun t v q=>by simpa using h2 t v (by simpa [Env.ofPs] using q)⟩
 |p::ps,v::vs,E,tmps,hp,h1,h2=>by
  have:=Hd.ofPs ps vs ((p,v)::E) (tmps.setIfInBounds p v) (fun x hx=>hp x (by simp [hx])) (by simpa using h1) (fun t u q=>by
   rw [Env.at_cons] at q
   split at q
   ·rename_i e;subst e;cases q
    have:p<tmps.size:=by rw [h1];exact hp p (by simp)
    simp [this]
   ·rename_i e
    rw [Array.getElem?_setIfInBounds_ne e]
    exact h2 t u q)
  simpa [Env.ofPs] using this
def BeginK (P:Program) (l:Nat) (bd:Code) (Q:Exit→Act→World→Prop):Act→World→Prop:=fun a₁ w₁=>∃ w₂,(Instr.beginRound l).run P w₁=.ok () w₂∧bd.wpIn (fen (some l)) 0 P Q a₁ w₂
abbrev asgQ (P:Program) (l:Nat) (bd:Code) (Q:Exit→Act→World→Prop):QQ:=.thn (BeginK P l bd Q) (.rnd l fun _ _ _=>False)
theorem is_begin {bd:Code} {Q:Exit→Act→World→Prop} (h:KJ W n (.raw (BeginK P l bd Q)) E H):KJ W n (.raw (BeginK P l bd Q)) E H:=h
theorem KJ_begin {Q:Exit→Act→World→Prop} {E':Env} {bd':Code} (hs:Sel (recP l .ready pe n E' ps asg bd') H R) (h:KJ W n (.code P bd (.rnd l Q)) E (recP l .busy pe n E' ps asg bd'::R)):KJ W n (.raw (BeginK P l bd Q)) E H:=
 ⟨fun a w p s=>by
  obtain ⟨fn,tmps,D,hh,_⟩:=s.left.recd hs
  exact ⟨_,run_beginRound hh rfl,h.go a _ p (St.recTurn s (hs.app _) hh)⟩⟩
theorem KJ_round {r:X→Bool} {Hp:X→List SP} {ex:Exit} {jump:Option Code} {E':Env} (hj:ex=.normal∧jump=none∨ex=.ret∧jump=some .ret∨∃ id,ex=.exit id∧jump=some (.exit id)) (hs:Sel (recP l .busy pe n E' ps asg bd) H H') (c:X) (hc:jump.isNone=r c)
 (hE:∀ g,zAj (recP l (if jump.isNone then .ready else .done) jump n E' ps asg bd::H') g→zAj (Hp c++R) g):KJ W n (.ex (.rnd l (roundPost P l (RPost W r Hp R))) ex) E H:=
 ⟨fun a w p s=>by
  obtain ⟨fn,tmps,D,hh,_⟩:=s.left.recd hs
  have hrun:=run_endRound (P:=P) jump hh
  have st:St W (recP l (if jump.isNone then .ready else .done) jump n E' ps asg bd::H') _:=(St.recTurn (st':=if jump.isNone then .ready else .done) (pe':=jump) s (hs.app _) hh).left (B:=dm a.defers)
  have fin:∃ v w',(Instr.endRound l jump).run P w=.ok v w'∧RPost W r Hp R (.returned v) w':=⟨_,_,hrun,c,by rw [hc],st.mono hE⟩
  rcases hj with ⟨rfl,rfl⟩|⟨rfl,rfl⟩|⟨id,rfl,rfl⟩
  ·exact fin
  ·exact fin
  ·exact fin⟩
theorem KJ_round_t {A B:List SP} {E':Env} (hs:Sel (recP l .busy pe n E' ps asg bd) H H') (hE:∀ g,zAj (recP l .ready none n E' ps asg bd::H') g→zAj (A++R) g):KJ W n (.ex (.rnd l (roundPost P l (RPost W (fun b:Bool=>b) (fun b=>if b then A else B) R))) .normal) E H:=
 KJ_round (.inl ⟨rfl,rfl⟩) hs true rfl hE
theorem KJ_round_f {A B:List SP} {E':Env} {id:Nat} (hs:Sel (recP l .busy pe n E' ps asg bd) H H') (hE:∀ g,zAj (recP l .done (some (.exit id)) n E' ps asg bd::H') g→zAj (B++R) g):KJ W n (.ex (.rnd l (roundPost P l (RPost W (fun b:Bool=>b) (fun b=>if b then A else B) R))) (.exit id)) E H:=
 KJ_round (.inr (.inr ⟨id,rfl,rfl⟩)) hs false rfl hE
theorem Yt.of {args:List Value} {psl:List Tmp} {Hpre:List SP} {r:X→Bool} {Hp:X→List SP} (hl:args.length=psl.length) (hp:∀ p ∈ psl,p<n)
 (h:∀ R,KJ W n (.code P asg (asgQ P l bd (roundPost P l (RPost W r Hp R)))) (Env.ofPs psl args E) (recP l .ready pe n E psl.toArray asg bd::Hpre++R)):Yt P W l args (recP l .ready pe n E psl.toArray asg bd::Hpre) r Hp:=
 ⟨fun R w s=>by
  obtain ⟨fn,tmps,D,hh,h1,h2⟩:=s.recd .here
  refine ⟨_,_,_,_,run_yield hh (by simpa using hl),?_⟩
  refine roundIn_of_wpIn (F:=Fence.wide) (n:=0) trivial ?_
  have hd:=Hd.ofPs psl args E tmps hp h1 h2
  have:=(h R).go _ w hd (s.perm (by show _;simp [dm]))
  simp only [List.zip_toArray,List.foldl_toArray',List.size_toArray]
  exact this⟩
theorem KJ_range {g:Operand} {gf:FuncId} {lb:List Value} {Hpre:List SP} {pe:X→Option Code} {Hp:X→List SP} {v:X→Value} (hro:q.ro=none) (hg:Env.ev E g=some (.func (.func gf) #[] lb.toArray)) [hf:FnIs P gf]
 (hc:∀ l,Ct P W gf (yv l::lb) (recP l .ready none n E ps asg bd::Hpre) v (fun x=>recP l (if (pe x).isNone then .ready else .done) (pe x) n E ps asg bd::Hp x)) (hp:Pick Hpre H R)
 (h0:∀ x,pe x=none→KJ W n (.ex q .normal) E (Hp x++R)) (h1:∀ x c,pe x=some c→KJ W n (.code P c q) E (Hp x++R)):KJ W n (.code P (Code.rangeFunc g ps asg bd) q) E H:=by
 refine ⟨fun a w p s=>?_⟩
 show (Code.rangeFunc g ps asg bd).wpIn (fen q.ro) 0 P q.den a w
 rw [hro]
 refine wpIn_rangeFunc fun fn _=>?_
 obtain ⟨W1,hW1⟩:∃ W1,((w.alloc (.deferred (some []))).alloc (.loop { state:=.ready,pending:=none,fn,tmps:=a.tmps,params:=ps,assign:=asg,body:=bd,defers:=w.heap.size }))=W1:=⟨_,rfl⟩
 have hev:=p.ev hg
 have hb:FnIs P gf:=hf
 refine ⟨w.heap.size+1,[{ target:=.collected w.heap.size,args:=#[] }],W1,{ target:=.fn (.func gf) lb.toArray,args:=#[yv (w.heap.size+1)] },W1,gf,(yv (w.heap.size+1)::lb).toArray,W1,?_,?_,fun _ _=>trivial,?_,fun e=>by simp at e,?_⟩
 ·rw [← hW1];exact run_enterLoop_outer _ _ _ _ _
 ·simp only [resolve,hev]
  simp [go_sem]
 ·have hf:=hf.h
  cases hq:P.funcs[gf]? with
  |none=>simp [hq] at hf
  |some fnn=>
   simp [hq] at hf
   obtain ⟨h1,h2⟩:=hf
   have hb:¬ fnn.body=none:=by cases h:fnn.body <;> simp_all
   simp [invoke,callFunc,Go.program,Sem.run,hq,h2,hb,Result.andThen]
 ·have s1:St W (recP (w.heap.size+1) .ready none n E ps asg bd::objP w.heap.size (.deferred (some []))::(H++dm a.defers)) W1:=by
   rw [← hW1]
   have:=(St.alloc (A:=objP w.heap.size (.deferred (some []))) (o:=.deferred (some [])) s (Hl.one_self _ _))
   refine this.alloc (A:=recP (w.heap.size+1) .ready none n E ps asg bd) ?_
   rw [World.size_alloc]
   exact ⟨fn,a.tmps,w.heap.size,Hl.one_self _ _,p.size,p.at_⟩
  have hpm:(recP (w.heap.size+1) .ready none n E ps asg bd::objP w.heap.size (.deferred (some []))::(H++dm a.defers)).Perm ((recP (w.heap.size+1) .ready none n E ps asg bd::Hpre)++(R++(objP w.heap.size (.deferred (some []))::dm a.defers))):=by
   refine List.Perm.cons _ ?_
   refine (List.perm_middle (l₁:=H)).symm.trans ?_
   refine List.Perm.trans (hp.perm.append_right _) ?_
   show ((Hpre++R)++_).Perm (Hpre++(R++_))
   rw [List.append_assoc]
  refine (callsIn_wide (n:=0)).2 (((hc (w.heap.size+1)).go _ W1 (s1.perm hpm)).mono ?_)
  rintro e w2 ⟨x,rfl,s2⟩
  obtain ⟨fn',tmps',D',hh,_⟩:=s2.recd .here
  have hne:(if (pe x).isNone then LoopState.ready else LoopState.done)≠.busy:=by split <;> simp
  have s3:=St.recTurn (st':=.exhausted) (pe':=pe x) s2 .here hh
  have s4:St W ((Hp x++R)++(objP w.heap.size (.deferred (some []))::dm a.defers)) (w2.putObj (w.heap.size+1) (.loop { state:=.exhausted,pending:=pe x,fn:=fn',tmps:=tmps',params:=ps,assign:=asg,body:=bd,defers:=D' })):=by
   have:=s3.right (A:=[recP (w.heap.size+1) .exhausted (pe x) n E ps asg bd])
   rw [List.append_assoc];exact this
  refine ⟨pe x,_,run_endLoop hh hne,?_⟩
  have p2:Hd n E { a with defers:=[{ target:=.collected w.heap.size,args:=#[] }]++a.defers }:=⟨p.size,p.at_⟩
  cases hpe:pe x with
  |none=>
   rw [hpe] at s4
   exact (h0 x hpe).go _ _ p2 s4
  |some c=>
   rw [hpe] at s4
   have:=(h1 x c hpe).go _ _ p2 s4
   have e2:KK.den (.code P c q)=c.wpIn (fen q.ro) 0 P q.den:=rfl
   rw [e2,hro] at this
   exact this
end
end Go.Proofs.YtgipenahkmbelaaGreatDoor
namespace Go.Proofs.YtgipenahkmbelaaGreatDoor
open Go Go.RowKit
section
variable {P:Program} {W:World} {n d m sz bytes:Nat} {E:Env} {H R:List SP} {k:KK} {t e:TypeId} {x y:Operand}
theorem KJ_make0 {C:Int} {zs:List Value} (hx:Env.ev E x=some (.int .i64 0)) (hy:Env.ev E y=some (.int .i64 C)) [hu:UIs P t (.slice e)] [hs:SzIs P e sz] [hb:ByIs P e bytes] [hz:ZcIs P e zs] (hC:C=(m:Int)) (hm:bytes*m≤281474976710656) (hm2:m≤9223372036854775807) (hn:Nat.blt d n=true)
 (h:∀ g c,KJ W n k ((d,.slice (some ⟨g,0,none⟩) 0 c)::E) (rowP (.slice (some ⟨g,0,none⟩) 0 c) e sz 0 []::H)):KJ W n (.oper P (.makeSlice t x y) (some d) k) E H:=by
 refine ⟨fun a w p s o ho hd=>?_⟩
 have hz:=hz.h
 have hs:=hs.h
 have hb:=hb.h
 cases hq:P.info? e with
 |none=>simp [hq] at hz
 |some i=>
  simp [hq] at hz hs hb
  obtain ⟨zv,hz1,hz2⟩:=hz
  obtain ⟨w',h1,h2,h3⟩:=run_make_own (P:=P) w W.heap.size t e i zv sz hu.h hq hz1 hs .i64 .i64 m (by rw [hb];exact hm) (by unfold maxLen;omega) s.size
  show uponP P o a _ ((execOp a.eval o).run P w)
  have hrun:(execOp a.eval o).run P w=.ok (.value (.slice (some ⟨w.heap.size,0,none⟩) 0 m)) w':=by
   simp only [execOp,ho,p.ev hx,p.ev hy,hC,Sem.run_bind,h1,Result.andThen_ok,Sem.run_pure]
  rw [hrun]
  obtain ⟨q1,q2⟩:=h2
  rcases q2 with ⟨q,_⟩|⟨g,cap,cur,hv,hg,hh,hle,hml,hsz,htk⟩
  ·cases q
  ·cases hv
   have st:St W (rowP (.slice (some ⟨w.heap.size,0,none⟩) 0 m) e sz 0 []::(H++dm a.defers)) w':=by
    obtain ⟨h1',h2',dj,hA,hH,l1,l2⟩:=(show St W ([]++(H++dm a.defers)) w from s).split
    exact St.join (B:=[rowP (.slice (some ⟨w.heap.size,0,none⟩) 0 m) e sz 0 []]) (g:=Hl.one w.heap.size (.cells cur e (0,0))) s.below dj hH l1 l2 (starL_one ⟨q1,.inr ⟨_,_,cur,rfl,Hl.one_self _ _,hle,hml,hsz,htk⟩⟩) h3.os h3.tape h3.output h3.size
     (fun k o q=>by obtain ⟨rfl,rfl⟩:=Hl.one_some q;exact hh) (fun k o q=>by obtain ⟨rfl,rfl⟩:=Hl.one_some q;exact .inr (Nat.le_refl _)) (fun k hk _=>h3.block k hk (by simp))
   have:=(h w.heap.size m).go _ w' (p.put (d:=some d) hn _) st
   rw [← hd] at this
   exact this
def allP (key:Nat) (L:List SP):SP:=⟨51,key,fun h=>zAj L h⟩
theorem all_open {L H:List SP} {key:Nat} {g:Hl} (q:zAj (allP key L::H) g):zAj (L++H) g:=by
 obtain ⟨h1,h2,d,l1,l2,s1,s2⟩:=q
 exact (zBp g).2 ⟨h1,h2,d,l1,l2,s1,s2⟩
theorem all_shut {L H:List SP} {key:Nat} {g:Hl} (q:zAj (L++H) g):zAj (allP key L::H) g:=by
 obtain ⟨h1,h2,d,l1,l2,s1,s2⟩:=(zBp g).1 q
 exact ⟨h1,h2,d,l1,l2,s1,s2⟩
theorem KJ.allOpen {L:List SP} {key:Nat} (q:Sel (allP key L) H R) (h:KJ W n k E (L++R)):KJ W n k E H:=
 ⟨fun a w p s=>h.go a w p ((s.perm (q.perm.append_right _)).mono fun g hg=>by
  have:=all_open (L:=L) (H:=R++dm a.defers) hg
  rwa [← List.append_assoc] at this)⟩
theorem KJ.allShut {L:List SP} (key:Nat) (p:Pick L H R) (h:KJ W n k E (allP key L::R)):KJ W n k E H:=
 ⟨fun a w q s=>h.go a w q ((s.perm (p.perm.append_right _)).mono fun g hg=>by
  rw [List.append_assoc] at hg
  exact all_shut hg)⟩
theorem Yt.bif {l:Nat} {args:List Value} {Hpre A B:List SP} (h:Yt P W l args Hpre (fun b:Bool=>b) (fun b=>if b then A else B)):Yt P W l args Hpre (fun b:Bool=>b) (fun b=>match b with|true=>A|false=>B):=by
 have e:(fun b:Bool=>if b then A else B)=(fun b=>match b with|true=>A|false=>B):=by funext b;cases b <;> rfl
 rwa [e] at h
end
def Tr.frm (lo:List UInt8):Tr→Rows
 |.nil=>[]
 |.node l k v r _ _=>if Op.bytesLess k lo=true then r.frm lo else l.frm lo++(k,v)::r.frm lo
theorem frm_lo {l r:Tr} {k v lo:List UInt8} {h s:Nat} (c:Op.bytesLess k lo=true):(Tr.node l k v r h s).frm lo=r.frm lo:=if_pos c
theorem frm_hi {l r:Tr} {k v lo:List UInt8} {h s:Nat} (c:Op.bytesLess k lo=false):(Tr.node l k v r h s).frm lo=l.frm lo++(k,v)::r.frm lo:=if_neg (by rw [c];decide)
def jsP (J S:Nat→SP) (M:Nat):Option Nat→SP
 |none=>J M
 |some m=>S m
section
variable {W:World} {N:List Nd} {L:Rows} {J S:Nat→SP} {lp:Nat}
theorem rising_ct (lo:List UInt8) (hy:∀ i p,L[i]? = some p→Yt Tryz.prog W lp [strV p.1,strV p.2] [J i] (fun b:Bool=>b) (fun b=>match b with|true=>[J (i+1)]|false=>[S i])):∀ (t:Tr) (a:Option Addr) (i0 M:Nat),TrAt N a t→M=i0+(t.frm lo).length→(∀ j p,(t.frm lo)[j]? = some p→L[i0+j]? = some p)→
 Ct Tryz.prog W 78 [.pointer a,strV lo,yv lp] [arP N,J i0] (fun x:{x:Option Nat//∀ m,x=some m→m<M}=>.bool x.1.isNone) (fun x=>[arP N,jsP J S M x.1]):=by
 intro t
 induction t with
 |nil=>
  intro a i0 M hT hM hL
  cases hT
  have hM:M=i0:=hM
  subst hM
  refine Ct.enter Tryz.func78 rfl Tryz.ntmps78 (by simp) (fun R=>?_)
  repeat' (first|refine xst ?_|(refine xsa ?_;intro _)|(refine xsb ?_ ?_ <;>intro _<;>try (exfalso;omega))|refine xsc ?_|(refine zAa (id:=5) plTDG0 (by kernel_rfl) (by kernel_rfl) ?_)|refine zAp ?_ ?_|refine zAn rfl rfl rfl rfl rfl ?_ ?_|refine zAg ?_ ?_|exact Rech.nil|fail)
  all_goals (exact xdn ⟨none,fun m h=>by cases h⟩)
 |node yl yk yv' yr yh ys ihl ihr=>
  intro a i0 M hT hM hL
  obtain ⟨b,al,ar,rfl,hm,hal,har⟩:=hT
  by_cases c:Op.bytesLess yk lo=true
  ·rw [frm_lo c] at hM hL
   have cr:=ihr ar i0 M har hM hL
   refine Ct.enter Tryz.func78 rfl Tryz.ntmps78 (by simp) (fun R=>?_)
   repeat' (first|(refine zAd ?_;refine zAc xE cr xP rfl (fun x=>?_))|(refine zAm ?_;refine zAb (zAx (nd:=⟨b,yk,yv',al,ar,yh,ys⟩) rfl xS hm rfl) ?_)|(refine zAq ?_;refine zAb (Ev_lssS_q rfl rfl c) ?_)|refine xst ?_|(refine xsa ?_;intro _)|(refine xsb ?_ ?_ <;>intro _<;>try (exfalso;omega))|refine xsc ?_|(refine zAa (id:=5) plTDG0 (by kernel_rfl) (by kernel_rfl) ?_)|refine zAp ?_ ?_|refine zAn rfl rfl rfl rfl rfl ?_ ?_|refine zAg ?_ ?_|exact Rech.nil|fail)
   all_goals (exact xdn x)
  ·have c:Op.bytesLess yk lo=false:=by simpa using c
   rw [frm_hi c] at hM hL
   rw [List.length_append,List.length_cons] at hM
   have cl:=ihl al i0 (i0+(yl.frm lo).length) hal rfl (fun j p h=>hL j p (by rw [List.getElem?_append_left (List.getElem?_eq_some_iff.1 h).1];exact h))
   have hyy:=hy (i0+(yl.frm lo).length) (yk,yv') (hL (yl.frm lo).length (yk,yv') (by rw [List.getElem?_append_right (Nat.le_refl _),Nat.sub_self];rfl))
   have cr:=ihr ar (i0+(yl.frm lo).length+1) M har (by omega) (fun j p h=>by
    have:=hL ((yl.frm lo).length+(j+1)) p (by rw [List.getElem?_append_right (by omega),Nat.add_sub_cancel_left,List.getElem?_cons_succ];exact h)
    rwa [← Nat.add_assoc,← Nat.add_assoc,Nat.add_right_comm (i0+_) j 1] at this)
   obtain ⟨m0,hm0⟩:∃ z,z=i0+(yl.frm lo).length:=⟨_,rfl⟩
   rw [← hm0] at cl hyy cr
   refine Ct.enter Tryz.func78 rfl Tryz.ntmps78 (by simp) (fun R=>?_)
   repeat' (first|(refine zAd ?_;refine zAc xE cl xP rfl (fun x=>?_);obtain ⟨x,hx⟩:=x;refine hold ?_)|(refine zAm ?_;refine zAb (zAx (nd:=⟨b,yk,yv',al,ar,yh,ys⟩) rfl xS hm rfl) ?_)|(refine zAq ?_;refine zAb (Ev_lssS_q rfl rfl c) ?_)|refine xst ?_|(refine xsa ?_;intro _)|(refine xsb ?_ ?_ <;>intro _<;>try (exfalso;omega))|refine xsc ?_|(refine zAa (id:=5) plTDG0 (by kernel_rfl) (by kernel_rfl) ?_)|refine zAp ?_ ?_|refine zAn rfl rfl rfl rfl rfl ?_ ?_|refine zAg ?_ ?_|exact Rech.nil|fail)
   refine Hold.mk ?_
   dsimp only at hx ⊢
   cases x with
   |some j=>
    have hj:=hx j rfl
    dsimp only [jsP,Option.isNone]
    repeat' (first|(refine zAm ?_;refine zAb (zAx (nd:=⟨b,yk,yv',al,ar,yh,ys⟩) rfl xS hm rfl) ?_)|refine xst ?_|(refine xsa ?_;intro _)|(refine xsb ?_ ?_ <;>intro _<;>try (exfalso;omega))|refine xsc ?_|(refine zAa (id:=5) plTDG0 (by kernel_rfl) (by kernel_rfl) ?_)|refine zAp ?_ ?_|refine zAn rfl rfl rfl rfl rfl ?_ ?_|refine zAg ?_ ?_|exact Rech.nil|fail)
    all_goals exact xdn ⟨some j,fun m h=>by cases h;omega⟩ (hE:=by dsimp only [jsP];exact (xN))
   |none=>
    dsimp only [jsP,Option.isNone]
    repeat' (first|(refine is_callV ?_;refine KJ_yield rfl xE hyy xP rfl (fun y=>?_);refine hold ?_)|(refine zAm ?_;refine zAb (zAx (nd:=⟨b,yk,yv',al,ar,yh,ys⟩) rfl xS hm rfl) ?_)|refine xst ?_|(refine xsa ?_;intro _)|(refine xsb ?_ ?_ <;>intro _<;>try (exfalso;omega))|refine xsc ?_|(refine zAa (id:=5) plTDG0 (by kernel_rfl) (by kernel_rfl) ?_)|refine zAp ?_ ?_|refine zAn rfl rfl rfl rfl rfl ?_ ?_|refine zAg ?_ ?_|exact Rech.nil|fail)
    refine Hold.mk ?_
    cases y with
    |false=>
     dsimp only
     repeat' (first|(refine zAm ?_;refine zAb (zAx (nd:=⟨b,yk,yv',al,ar,yh,ys⟩) rfl xS hm rfl) ?_)|refine xst ?_|(refine xsa ?_;intro _)|(refine xsb ?_ ?_ <;>intro _<;>try (exfalso;omega))|refine xsc ?_|(refine zAa (id:=5) plTDG0 (by kernel_rfl) (by kernel_rfl) ?_)|refine zAp ?_ ?_|refine zAn rfl rfl rfl rfl rfl ?_ ?_|refine zAg ?_ ?_|exact Rech.nil|fail)
     all_goals exact xdn ⟨some m0,fun m h=>by cases h;omega⟩ (hE:=by dsimp only [jsP];exact (xN))
    |true=>
     dsimp only
     repeat' (first|(refine zAd ?_;refine zAc xE cr xP rfl (fun z=>?_))|(refine zAm ?_;refine zAb (zAx (nd:=⟨b,yk,yv',al,ar,yh,ys⟩) rfl xS hm rfl) ?_)|refine xst ?_|(refine xsa ?_;intro _)|(refine xsb ?_ ?_ <;>intro _<;>try (exfalso;omega))|refine xsc ?_|(refine zAa (id:=5) plTDG0 (by kernel_rfl) (by kernel_rfl) ?_)|refine zAp ?_ ?_|refine zAn rfl rfl rfl rfl rfl ?_ ?_|refine zAg ?_ ?_|exact Rech.nil|fail)
     all_goals (exact xdn z)
end
end Go.Proofs.YtgipenahkmbelaaGreatDoor
namespace Go.Proofs.YtgipenahkmbelaaGreatDoor
open Go Go.RowKit
section
variable {P:Program} {W:World} {f:FuncId} {l:Nat} {args:List Value} {A A':List SP} {X:Type}
theorem Ct.conv {r:X→Value} {B B':X→List SP} (h:Ct P W f args A r B) (pre:∀ R g,zAj (A'++R) g→zAj (A++R) g) (post:∀ x R g,zAj (B x++R) g→zAj (B' x++R) g):Ct P W f args A' r B':=
 ⟨fun R w s=>(h.go R w (s.mono (pre R))).mono fun _ _ ⟨x,e,s⟩=>⟨x,e,s.mono (post x R)⟩⟩
theorem Yt.conv {r:X→Bool} {B B':X→List SP} (h:Yt P W l args A r B) (pre:∀ R g,zAj (A'++R) g→zAj (A++R) g) (post:∀ x R g,zAj (B x++R) g→zAj (B' x++R) g):Yt P W l args A' r B':=
 ⟨fun R w s=>by
  obtain ⟨f,tmps,asg,bd,h1,h2⟩:=h.go R w (s.mono (pre R))
  exact ⟨f,tmps,asg,bd,h1,h2.mono fun e w' ⟨x,he,s⟩=>⟨x,he,s.mono (post x R)⟩⟩⟩
end
section
variable {W:World} {N:List Nd} {a:Option Addr} {t:Tr} {lo:List UInt8} {L:Rows} {gr gl:Nat}
theorem from1_ct {lp:Nat} {J S:Nat→SP} (hT:TrAt N a t) (hL:L=t.frm lo) (hy:∀ i p,L[i]? = some p→Yt Tryz.prog W lp [strV p.1,strV p.2] [J i] (fun b:Bool=>b) (fun b=>match b with|true=>[J (i+1)]|false=>[S i])) :
 Ct Tryz.prog W 128 [yv lp,.pointer (some ⟨gr,0,none⟩),.pointer (some ⟨gl,0,none⟩)] [J 0,zAh gr [.pointer a] 119,zAh gl [strV lo] 9,arP N]
  (fun _:{x:Option Nat//∀ m,x=some m→m<L.length}=>.tuple #[]) (fun x=>[jsP J S L.length x.1,zAh gr [.pointer a] 119,zAh gl [strV lo] 9,arP N]):=by
 have cr:=rising_ct (W:=W) (N:=N) (L:=L) (J:=J) (S:=S) (lp:=lp) lo hy t a 0 L.length hT (by rw [hL];omega) (fun j p h=>by rw [hL,Nat.zero_add];exact h)
 refine Ct.enter Tryz.func128 rfl Tryz.ntmps128 (by simp) (fun R=>?_)
 repeat' (first|(refine zAd ?_;refine zAc xE cr xP rfl (fun x=>?_))|refine xst ?_|(refine xsa ?_;intro _)|(refine xsb ?_ ?_ <;>intro _<;>try (exfalso;omega))|refine xsc ?_|fail)
 all_goals (refine is_ex ?_;exact KJ_done (by first|exact Or.inl rfl|exact Or.inr rfl) rfl Rvs.nil x (by rfl) (xN))
theorem KJ_rangeFrom {n:Nat} {q:QQ} {gop:Operand} {En:Env} {H R:List SP} {psl:List Tmp} {asg bd:Code} (hro:q.ro=none) (hg:Env.ev En gop=some (.func (.func 128) #[] #[.pointer (some ⟨gr,0,none⟩),.pointer (some ⟨gl,0,none⟩)])) (hT:TrAt N a t) (hL:L=t.frm lo) (hpl:psl.length=2) (hpn:∀ p ∈ psl,p<n)
 (J S:Nat→SP) (jump:Code) (hp:Pick [J 0,zAh gr [.pointer a] 119,zAh gl [strV lo] 9,arP N] H R)
 (hb:∀ l i p,L[i]? = some p→∀ R,KJ W n (.code Tryz.prog asg (asgQ Tryz.prog l bd (roundPost Tryz.prog l (RPost W (fun b:Bool=>b) (fun b=>if b then recP l .ready none n En psl.toArray asg bd::[J (i+1)] else recP l .done (some jump) n En psl.toArray asg bd::[S i]) R)))) (Env.ofPs psl [strV p.1,strV p.2] En) (recP l .ready none n En psl.toArray asg bd::[J i]++R))
 (h0:KJ W n (.ex q .normal) En ([J L.length,zAh gr [.pointer a] 119,zAh gl [strV lo] 9,arP N]++R)) (h1:∀ i,i<L.length→KJ W n (.code Tryz.prog jump q) En ([S i,zAh gr [.pointer a] 119,zAh gl [strV lo] 9,arP N]++R)):KJ W n (.code Tryz.prog (Code.rangeFunc gop psl.toArray asg bd) q) En H:=by
 refine KJ_range (X:={x:Option Nat//∀ m,x=some m→m<L.length}) (lb:=[.pointer (some ⟨gr,0,none⟩),.pointer (some ⟨gl,0,none⟩)]) (pe:=fun x=>match x.1 with|none=>none|some _=>some jump) (Hp:=fun x=>[jsP J S L.length x.1,zAh gr [.pointer a] 119,zAh gl [strV lo] 9,arP N]) (v:=fun _=>.tuple #[]) hro hg (fun l=>?_) hp (fun x hx=>?_) (fun x cc hx=>?_)
 ·have key:=from1_ct (W:=W) (gr:=gr) (gl:=gl) (lp:=l) (J:=fun i=>allP l [recP l .ready none n En psl.toArray asg bd,J i]) (S:=fun i=>allP l [recP l .done (some jump) n En psl.toArray asg bd,S i]) hT hL (fun i p hi=>by
   have hy:=Yt.of (n:=n) (Hpre:=[J i]) (by rw [hpl];rfl) hpn (fun R=>hb l i p hi R)
   refine hy.conv (fun R g q=>all_open q) (fun b R g q=>?_)
   cases b
   ·exact all_shut (L:=[recP l .done (some jump) n En psl.toArray asg bd,S i]) q
   ·exact all_shut (L:=[recP l .ready none n En psl.toArray asg bd,J (i+1)]) q)
  refine key.conv (fun R g q=>all_shut (L:=[recP l .ready none n En psl.toArray asg bd,J 0]) q) (fun x R g q=>?_)
  obtain ⟨x,hx⟩:=x
  cases x
  ·exact all_open (L:=[recP l .ready none n En psl.toArray asg bd,J L.length]) q
  ·exact all_open (L:=[recP l .done (some jump) n En psl.toArray asg bd,S _]) q
 ·obtain ⟨x,hx'⟩:=x
  cases x with
  |none=>exact h0
  |some i=>cases hx
 ·obtain ⟨x,hx'⟩:=x
  cases x with
  |none=>cases hx
  |some i=>
   cases hx
   exact h1 i (hx' i rfl)
end
end Go.Proofs.YtgipenahkmbelaaGreatDoor
