/-
  JLe4, StW5, StW6, DfR, PnR, DeR, StW7, TxW4.
-/
import Derived.Test.YtoipmnikdiogcaaGreatDoorYDW
import Derived.RecoverIn
import Derived.WalkSmall
set_option maxHeartbeats 64000000
namespace Go.Proofs.YtoipmnikdiogcaaGreatDoor
open Go Go.RowKit
open Go.Proofs.Tryz
section
variable {P:Program} {W:World} {n:Nat} {k:KK} {E:Env} {H R:List SP} {x z:Operand} {t e:TypeId}
theorem Ct.rowSl {P:Program} {W:World} {f:FuncId} {args:List Value} {Hpre:List SP} {A:SP} {e size m:Nat} {xs:List Value} (h:Ct P W f args Hpre (fun v:Value=>.tuple #[v,.nilIface]) (fun v=>[A,yA4 v e size m xs])) :Ct P W f args Hpre (fun x:Option Addr × Nat=>.tuple #[.slice x.1 m x.2,.nilIface]) (fun x=>[A,yA4 (.slice x.1 m x.2) e size m xs]):=
 ⟨fun R w s=>(h.go R w s).mono fun en w' ⟨v,he,st⟩=>by
  have aC:=St.row (v:=v) (e:=e) (size:=size) (n:=m) (xs:=xs) st (.there .here);rcases aC.2 with ⟨hv,q⟩|⟨g,cap,aw,hv,_⟩
  ·subst hv;subst q;exact ⟨(none,0),he,st⟩
  ·subst hv;exact ⟨(some ⟨g,0,none⟩,cap),he,st⟩⟩
end
section
variable {W:World} {E:Nat→Addr} {p g:Nat} {D:Dsk}
theorem yPW (hE:ErrsOn L8 W E) (at_ n ver used life:Int) (bz:yBi D life false=false) (aS:D.und.length<1073741823):CtU prog W 62 [zPp g] [DiskP p D,yAj g [zPp p,zi at_,zi n,zi ver,zi used,zi life,.bool false] 180] (yAy E (if D.flushE=0 then 0 else 12)) [DiskP p D.flushD,yAj g [zPp p,zi at_,zi n,zi ver,zi used,zi life,.bool (decide (D.flushE≠0))] 180]:=by
 have dV:W.cell? ⟨2,0,none⟩=some (yAy E 12):=hE.at_ 12 zX;have c1:=yUB (W:=W) (p:=p) (g:=g) (D:=D) at_ n ver used life false;rw [bz] at c1;have c2:=yMC (W:=W) (p:=p) (D:=D) hE zO;obtain ⟨D1,aL⟩:∃ D1,D1=D.flushD:=⟨_,rfl⟩;obtain ⟨e,he⟩:∃ e,e=D.flushE:=⟨_,rfl⟩;rw [← aL,← he];rw [← aL,← he] at c2;clear aL he;by_cases hz:e=0
 ·subst hz;have iU:CtU prog W 125 [zPp p] [DiskP p D] .nilIface [DiskP p D1]:=c2;refine zE func62 ntmps62 fun R=>?_;repeat' (first|refine xst ?_|refine xsf ?_ ?_|exact xdn ()|intro _)
 ·obtain ⟨ea,bT⟩:=yDf (E:=E) hz;rw [bT] at c2;rw [if_neg hz,zY (show e≠0 from hz)];refine zE func62 ntmps62 fun R=>?_;repeat' (first|refine xqa ?_|refine xsf ?_ ?_|exact xdn ()|intro _)
end
section
variable {W:World} {F:Nat→Addr} {q s d n g:Nat} {D:Dsk}
instance xA1:FnIs prog 97:=⟨zK⟩
end
section
variable {W:World} {F:Nat→Addr} {q s d n g:Nat} {D:Dsk}
instance xC2:FnIs prog 49:=⟨zK⟩
instance xC3:FnIs prog 54:=⟨zK⟩
theorem yGm (h1:64≤n) (h2:n≤65536) (hn:D.n=n):Ct prog W 49 [zPp d] [DiskP d D] (fun x:Nat × Nat=>.pointer (some ⟨x.1,0,none⟩)) (fun x=>[stP x.1 d x.2 n 0 none D.life false,DiskP d D,tbP x.2 none 0]):=by
 have bj:CtU prog W 45 [zPp d] [DiskP d D] (zi (n:Nat)) [DiskP d D]:=by have:=yBM (W:=W) (p:=d) (D:=D);rw [hn] at this;exact this
 have cl:=yPV (W:=W) h1 h2;have ct:=yPR (W:=W);have cf:=yJ4 (W:=W) (p:=d) (D:=D);refine zE func49 ntmps49 fun R=>?_;repeat' (first|refine zbx fun s=>?_|refine xca ct fun q=>?_|refine xst ?_|refine xsf ?_ ?_|intro _)
 all_goals (exact xdn (s,q))
instance xC4:FnIs prog 51:=⟨zK⟩
end
def yC3 (D:List Deferred→List Deferred) (k:KK):KK:=.raw fun a w=>k.den { a with defers:=D a.defers } w
section
variable {P:Program} {W:World} {n d:Nat} {E:Env} {H R:List SP} {k k':KK} {q:QQ} {D:List Deferred→List Deferred} {op:Op} {dd:Option Tmp} {ops:Array Oper} {l:List Oper} {x y:Code} {c:Operand}
theorem KJ.lift0 (h:KJ W n (yC3 (fun l=>l) k) E H):KJ W n k E H:=⟨fun a w p s=>h.go a w p s⟩
theorem uponP.lift {o:Oper} {a:Act} {r:Result Next} (h:uponP P o a (yC3 D k).den r):uponP P o { a with defers:=D a.defers } k.den r:=by
 have e:∀ v w,(yC3 D k).den (a.put o.dst v) w→k.den (({ a with defers:=D a.defers }:Act).put o.dst v) w:=fun v w=>by cases o.dst <;> exact id
 unfold uponP at h ⊢;split
 ·exact e _ _ h
 ·exact e _ _ h
 ·exact h.mono fun ee w ⟨v,he,hn⟩=>⟨v,he,e _ _ hn⟩
 ·exact h.mono fun ee w ⟨v,he,hn⟩=>⟨v,he,e _ _ hn⟩
 ·simp_all
theorem KJ.liftOper (h:KJ W n (.oper P op dd (yC3 D k)) E H):KJ W n (yC3 D (.oper P op dd k)) E H:=
 ⟨fun a w p s o ho hd=>(h.go a w p s o ho hd).lift⟩
theorem Stp.den (s:Stp k k'):∀ a w,k'.den a w→k.den a w:=by
 intro a w;cases s with
 |seq=>exact wpIn_seq
 |region=>exact wpIn_region_lit
 |plain=>
  exact fun h=>wpListIn_step fun _ hK=>by rw [if_pos (by simp [Region.wanted])];exact ((h _ rfl rfl).mono hK).wpIn _ _
 |nil=>exact id
 |skip=>exact wpIn_skip
 |ret=>exact wpIn_ret
 |exit=>exact wpIn_exit
 |block=>exact wpIn_block
 |seq_normal=>exact id
 |seq_ret=>exact id
 |seq_exit=>exact id
 |thn_normal=>exact id
 |thn_ret=>exact id
 |thn_exit=>exact id
 |blk_normal=>exact id
 |blk_ret=>exact id
 |blk_exit=>intro h;simpa [KK.den,QQ.den,Exit.inBlock] using h
theorem KJ.liftStp (s:Stp k k') (h:KJ W n (yC3 D k') E H):KJ W n (yC3 D k) E H:=⟨fun a w p q=>s.den _ _ (h.go a w p q)⟩
theorem KJ.liftDraws {id:Nat} {l:List Oper} (p:Pl) (hm:P.follows .mixedOrders=true) (hB:yRO l p=true) (h:FW P W n l.toArray (yC3 D (.ex q .normal)) p E H):KJ W n (yC3 D (.code P (Code.region id l.toArray true) q)) E H:=
 ⟨fun _ _ hd st=>yNE (g:=D) (k:=yC3 D (.ex q .normal)) (fun _ _ h=>h) p hm hB h.go hd st⟩
theorem KJ.liftCondT (hc:Env.ev E c=some (.bool true)) (h:KJ W n (yC3 D (.code P x q)) E H):KJ W n (yC3 D (.code P (Code.cond c x y) q)) E H:=
 ⟨fun a w p s=>wpIn_cond_split (t:=true) (p.ev hc) (fun _=>h.go a w p s) (fun e=>by cases e)⟩
theorem KJ.liftCondF (hc:Env.ev E c=some (.bool false)) (h:KJ W n (yC3 D (.code P y q)) E H):KJ W n (yC3 D (.code P (Code.cond c x y) q)) E H:=
 ⟨fun a w p s=>wpIn_cond_split (t:=false) (p.ev hc) (fun e=>by cases e) (fun _=>h.go a w p s)⟩
theorem KJ.liftDefer {cl:Call} {e:Deferred} {ty:TypeId} {pos:String} {af:Array Edge} (cI:q.ro=none) (hr:∀ o:Oper,o.op=.defer cl→∀ a w,Hd n E a→St W H w→(execOp a.eval o).run P w=.ok (.defer e) w) (hn:yFW n dd=true) (h:KJ W n (yC3 (fun l=>e::D l) (.list P ops q l)) (Env.put E dd undef) H):KJ W n (yC3 D (.list P ops q (⟨dd,.defer cl,ty,pos,af,none⟩::l))) E H:=by
 refine ⟨fun a w p s=>?_⟩;show wpListIn (fen q.ro) 0 P ops q.den (⟨dd,.defer cl,ty,pos,af,none⟩::l) { a with defers:=D a.defers } w;refine wpListIn_step fun K hK=>?_;rw [if_pos (by simp [Region.wanted])];refine ⟨fun _ _=>trivial,?_⟩;have hs:(⟨dd,.defer cl,ty,pos,af,none⟩:Oper).semAt (fen q.ro).round ({ a with defers:=D a.defers }:Act).eval=execOp a.eval ⟨dd,.defer cl,ty,pos,af,none⟩:=by rw [show (fen q.ro).round=none from cI];rfl
 rw [hs,hr _ rfl a w p s.left];refine hK _ _ ?_;have h2:=h.go (a.put dd undef) w (p.put hn undef) (by show St W (H++dm (a.put dd undef).defers) w;rw [yB9];exact s);cases dd <;> exact h2
theorem KJ.liftTop {Q:Exit→Act→World→Prop} {ex:Exit} (h:∀ a w,Hd n E a→Sta W H a w→Q ex { a with defers:=D a.defers } w):KJ W n (yC3 D (.ex (.top Q) ex)) E H:=⟨h⟩
end
structure CtD (P:Program) (W:World) (f:FuncId) (args:List Value) (u:FrameMode) (Hpre:List SP) {X:Type} (Hp:X→List SP):Prop where
 go:∀ R w,St W (Hpre++R) w→CallsDIn Fence.wide 0 P f args.toArray u w fun e u' w'=>∃ x v,e=.returned v∧u'=u∧St W (Hp x++R) w'
theorem yIa {P:Program} {W:World} {fn:Func} {tmps:Array Value} {Rr:Ending→World→Prop} {d:Deferred} {ds:List Deferred} {u:FrameMode} {w:World} {f:FuncId} {args:List Value} {Hpre R:List SP} {X:Type} {Hp:X→List SP} (cd:CtD P W f args u Hpre Hp) (hu:u≠.run) {fv:Fn} {cap:Array Value} (kT:d.target=.fn fv cap) (kN:(invoke d.target d.args).run P w=.ok (.enter f args.toArray) w) (s:St W (Hpre++R) w) (h:∀ x w',St W (Hp x++R) w'→LeavesInM Fence.wide 0 P fn tmps Rr ds (settle u) w'):LeavesInM Fence.wide 0 P fn tmps Rr (d::ds) u w:=by
 refine ⟨hu,.inr ⟨fun e=>by simp [Fence.wide] at e,fv,cap,f,args.toArray,kT,kN,fun _ _=>trivial,?_⟩⟩;obtain ⟨hF,hc⟩:=cd.go R w s;refine ⟨hF,fun c cs hm hr=>?_⟩;obtain ⟨e,u',w',fr,⟨x,v,rfl,rfl,hS⟩,h1,h2,h3,h4⟩:=hc c cs hm hr;exact ⟨_,_,w',fr,h x w' hS,h1,h2,h3,h4⟩
abbrev pnc (v:Value):List PanicEntry:=[{ v,recovered:=false }]
structure Pn (P:Program) (W:World) (f:FuncId) (args:List Value) (Hpre:List SP) {X:Type} (v:X→Value) (H':X→List SP):Prop where
 go:∀ R w,St W (Hpre++R) w→Calls P f args.toArray w fun e w'=>∃ x,e=.panicked (pnc (v x))∧St W (H' x++R) w'
def yZ6 (W:World) {X:Type} (v:X→Value) (H':X→List SP) (R:List SP):Ending→World→Prop:=fun e w=>∃ x,e=.panicked (pnc (v x))∧St W (H' x++R) w
section
variable {P:Program} {W:World} {n:Nat} {q:QQ} {k:KK} {E:Env} {H H' R:List SP} {ops:Array Oper} {l:List Oper} {x:Operand} {X:Type} {d:Option Tmp} {ty:TypeId} {pos:String} {af:Array Edge}
theorem Pn.enter {f:FuncId} {args:List Value} {Hpre:List SP} {r:X→Value} {Hp:X→List SP} {fn:Func} {c:Code} (hf:P.funcs[f]? = some fn) (hb:fn.body=some c) (hn:fn.ntmps=n) (hk:args.length≤n) (h:∀ R,KJ W n (.code P c (.top (bodyPostM Fence.wide 0 P fn (yZ6 W r Hp R)))) (Env.ofArgs args 0) (Hpre++R)):Pn P W f args Hpre r Hp:=by
 refine ⟨fun R w s=>?_⟩;refine callsIn_wide.1 (callsIn_of_wp_marks (F:=Fence.wide) (n:=0) hf hb trivial ((h R).go _ w ⟨?_,fun t v e=>?_⟩ (s.perm (by show (Hpre++R).Perm ((Hpre++R)++[]);rw [zLs]))))
 ·simp [hn];omega
 ·obtain ⟨_,h2⟩:=Env.ofArgs_at args 0 t v e;have hl:=(zLc.1 h2).1;simp only [Nat.sub_zero] at h2 hl;show (args.toArray++_)[t]? = _;rw [Array.getElem?_append_left (by simpa using hl)];simpa using h2
theorem KJ.pnSeq {ch:List PanicEntry} {y:Code} (h:KJ W n (.ex q (.panic ch)) E H):KJ W n (.ex (.seq P y q) (.panic ch)) E H:=⟨h.go⟩
theorem KJ.pnThn {ch:List PanicEntry} {K:Act→World→Prop} (h:KJ W n (.ex q (.panic ch)) E H):KJ W n (.ex (.thn K q) (.panic ch)) E H:=⟨h.go⟩
theorem KJ.pnBlk {ch:List PanicEntry} {id:Nat} (h:KJ W n (.ex q (.panic ch)) E H):KJ W n (.ex (.blk id q) (.panic ch)) E H:=⟨h.go⟩
theorem yQ7 {T:TypeId} {v:Value} (cI:q.ro=none) (hx:Env.ev E x=some (.iface T v)) (h:KJ W n (.ex q (.panic (pnc (.iface T v)))) E H):KJ W n (.list P ops q (⟨d,.panic x,ty,pos,af,none⟩::l)) E H:=by
 refine ⟨fun a w p s=>?_⟩;show wpListIn (fen q.ro) 0 P ops q.den (⟨d,.panic x,ty,pos,af,none⟩::l) a w;refine wpListIn_step fun K hK=>?_;rw [if_pos (by simp [Region.wanted])];refine ⟨fun _ _=>trivial,?_⟩;have hs:(⟨d,.panic x,ty,pos,af,none⟩:Oper).semAt (fen q.ro).round a.eval=execOp a.eval ⟨d,.panic x,ty,pos,af,none⟩:=by rw [show (fen q.ro).round=none from cI];rfl
 have hr:(execOp a.eval (⟨d,.panic x,ty,pos,af,none⟩:Oper)).run P w=.halt (.panic (.iface T v)) w:=by simp [execOp,p.ev hx,run_panic_iface]
 rw [hs,hr];exact h.go a w p s
theorem yCy {f:FuncId} {xs:List Operand} {ts:Array TypeId} {vs:List Value} {Hpre:List SP} {r:X→Value} {Hp:X→List SP} (cI:q.ro=none) (hx:Evs E xs vs) [hf:FnIs P f] (hc:Pn P W f vs Hpre r Hp) (hp:Pick Hpre H R) (h:∀ c,KJ W n (.ex q (.panic (pnc (r c)))) E (Hp c++R)):KJ W n (.list P ops q (⟨d,.call { callee:=.value (.func f),args:=xs.toArray,argTypes:=ts },ty,pos,af,none⟩::l)) E H:=by
 refine ⟨fun a w p s=>?_⟩;show wpListIn (fen q.ro) 0 P ops q.den (_::l) a w;refine wpListIn_step fun K hK=>?_;rw [if_pos (by simp [Region.wanted])];refine ⟨fun _ _=>trivial,?_⟩;have hs:(⟨d,.call { callee:=.value (.func f),args:=xs.toArray,argTypes:=ts },ty,pos,af,none⟩:Oper).semAt (fen q.ro).round a.eval=execOp a.eval ⟨d,.call { callee:=.value (.func f),args:=xs.toArray,argTypes:=ts },ty,pos,af,none⟩:=by rw [show (fen q.ro).round=none from cI];rfl
 rw [hs,yHz (hf:=hf) rfl hx p w];refine ⟨fun e=>by simp at e,?_⟩;have s2:St W (Hpre++(R++dm a.defers)) w:=by rw [← zLd];exact s.perm (hp.perm.append_right _)
 exact (callsIn_wide (n:=0)).2 ((hc.go _ w s2).mono fun e w' ⟨c,he,hS⟩=>by subst he;exact (h c).go a w' p (by show St W ((Hp c++R)++dm a.defers) w';rw [zLd];exact hS))
theorem yM8 {fn:Func} {tmps:Array Value} {r:X→Value} {Hp:X→List SP} (c:X) (hE:∀ g,yAH H g→yAH (Hp c++R) g) :∀ (ds:List Deferred) (w:World),St W (H++dm ds) w→LeavesInM Fence.wide 0 P fn tmps (yZ6 W r Hp R) ds (.panicking (pnc (r c))) w:=by
 intro ds
 induction ds with
 |nil=>
  intro w s;have s:St W H w:=s.left;exact ⟨c,rfl,s.mono hE⟩
 |cons e ds ih=>
  intro w s;refine ⟨by simp,.inl ?_⟩;cases ht:e.target with
  |collected b=>
   have e1:dm (e::ds)=yQo b (.deferred (some []))::dm ds:=by simp [dm,ht]
   rw [e1] at s;have s:=s.perm List.perm_middle;have hb:=(s.obj .here).2;refine ⟨b,_,rfl,run_takeDeferred hb,ih _ ?_⟩;have s2:St W (yQo b (.deferred none)::(H++dm ds)) (w.putObj b (.deferred none)):=s.turn .here (fun h q=>q) (Hl.one_self _ _) rfl rfl rfl zW (World.putObj_heap_same (zLh.1 hb).1) (fun k hk=>World.putObj_heap_other hk);exact s2.right (A:=[_])
  |_=>
   exfalso;have e1:dm (e::ds)=yGZ False::dm ds:=by simp [dm,ht]
   rw [e1] at s;exact (s.perm List.perm_middle).fact .here
theorem yBR {r:X→Value} {Hp:X→List SP} {fn:Func} {v:Value} (c:X) (hc:v=r c) (hE:∀ g,yAH H g→yAH (Hp c++R) g):KJ W n (.ex (.top (bodyPostM Fence.wide 0 P fn (yZ6 W r Hp R))) (.panic (pnc v))) E H:=by subst hc;exact ⟨fun a w p q=>yM8 (P:=P) (fn:=fn) (tmps:=a.tmps) (R:=R) c hE a.defers w q⟩
end
section
variable {P:Program} {W:World} {n:Nat} {E:Env} {H H' R:List SP} {q:QQ}
structure KS (W:World) (n:Nat) (K:Act→List Frame→World→Prop) (cs:List Frame) (E:Env) (H:List SP):Prop where
 go:∀ a w,Hd n E a→St W H w→a.defers=[]→K a cs w
theorem yYS {x y:Code} {Q:Exit→Act→List Frame→World→Prop} {cs:List Frame} (h:KS W n (x.wpSIn Fence.wide 0 P (Exit.thenS (y.wpSIn Fence.wide 0 P Q) Q)) cs E H):KS W n ((Code.seq x y).wpSIn Fence.wide 0 P Q) cs E H:=
 ⟨fun a w p s d=>wpSIn_seq (h.go a w p s d)⟩
theorem yOk {id:Nat} {ops:Array Oper} {Q:Exit→Act→List Frame→World→Prop} {cs:List Frame} (h:KS W n (wpOpsSIn Fence.wide 0 P ops Q (List.range ops.size)) cs E H):KS W n ((Code.region id ops false).wpSIn Fence.wide 0 P Q) cs E H:=
 ⟨fun a w p s d=>wpSIn_region (h.go a w p s d)⟩
theorem yKI {c:Code} {Q:Exit→Act→List Frame→World→Prop} {cs:List Frame} (h:KJ W n (yC3 (fun _=>[]) (.code P c (.top fun e a w=>Q e a cs w))) E H):KS W n (c.wpSIn Fence.wide 0 P Q) cs E H:=
 ⟨fun a w p s d=>wpSIn_of_wpIn rfl (by
  have h1:=h.go { a with defers:=[] } w ⟨p.size,p.at_⟩ (by show St W (H++[]) w;rw [zLs];exact s);have e:({ a with defers:=[] }:Act)=a:=by rw [← d]
  have h1:c.wpIn Fence.wide 0 P (fun e a w=>Q e a cs w) { a with defers:=[] } w:=h1;rw [e] at h1;exact h1)⟩
theorem yLA {ops:Array Oper} {i:Nat} {rest:List Nat} {Q:Exit→Act→List Frame→World→Prop} {cs:List Frame} {d:Option Tmp} {ty:TypeId} {pos:String} {af:Array Edge} (hi:ops[i]? = some ⟨d,.call { callee:=.builtin .recover,args:=#[],argTypes:=#[] },ty,pos,af,none⟩) (hr:recoverD cs=none) (hd:yFW n d=true) (h:KS W n (wpOpsSIn Fence.wide 0 P ops Q rest) cs (Env.put E d .nilIface) H):KS W n (wpOpsSIn Fence.wide 0 P ops Q (i::rest)) cs E H:=by
 refine ⟨fun a w p s e=>?_⟩;simp only [wpOpsSIn,hi];refine ⟨fun _ _=>trivial,?_⟩;rw [if_pos (by simp [Region.wanted])];have av:(execOp a.eval ⟨d,.call { callee:=.builtin .recover,args:=#[],argTypes:=#[] },ty,pos,af,none⟩).run P w=.ok .recover w:=by simp [execOp,resolve,invoke,builtin]
 rw [av];simp only [hr];exact h.go _ w (p.put hd .nilIface) s (by cases d <;> exact e)
theorem yLB {ops:Array Oper} {i:Nat} {rest:List Nat} {Q:Exit→Act→List Frame→World→Prop} {cs cs':List Frame} {v:Value} {d:Option Tmp} {ty:TypeId} {pos:String} {af:Array Edge} (hi:ops[i]? = some ⟨d,.call { callee:=.builtin .recover,args:=#[],argTypes:=#[] },ty,pos,af,none⟩) (hr:recoverD cs=some (v,cs')) (hd:yFW n d=true) (h:KS W n (wpOpsSIn Fence.wide 0 P ops Q rest) cs' (Env.put E d v) H):KS W n (wpOpsSIn Fence.wide 0 P ops Q (i::rest)) cs E H:=by
 refine ⟨fun a w p s e=>?_⟩;simp only [wpOpsSIn,hi];refine ⟨fun _ _=>trivial,?_⟩;rw [if_pos (by simp [Region.wanted])];have av:(execOp a.eval ⟨d,.call { callee:=.builtin .recover,args:=#[],argTypes:=#[] },ty,pos,af,none⟩).run P w=.ok .recover w:=by simp [execOp,resolve,invoke,builtin]
 rw [av];simp only [hr];exact h.go _ w (p.put hd v) s (by cases d <;> exact e)
theorem yYT {ops:Array Oper} {Q:Exit→Act→List Frame→World→Prop} {cs:List Frame} (h:KS W n (Q .normal) cs E H):KS W n (wpOpsSIn Fence.wide 0 P ops Q []) cs E H:=⟨fun a w p s e=>h.go a w p s e⟩
theorem yU7 {next:Act→List Frame→World→Prop} {Q:Exit→Act→List Frame→World→Prop} {cs:List Frame} (h:KS W n next cs E H):KS W n (Exit.thenS next Q .normal) cs E H:=⟨fun a w p s e=>h.go a w p s e⟩
theorem CtD.enter {f:FuncId} {args:List Value} {u:FrameMode} {Hpre:List SP} {X:Type} {Hp:X→List SP} {fn:Func} {c:Code} (hf:P.funcs[f]? = some fn) (hb:fn.body=some c) (hn:fn.ntmps=n) (hk:args.length≤n) (h:∀ (R:List SP) (c₀:Frame) (cs:List Frame),c₀.mode=u→KS W n (c.wpSIn Fence.wide 0 P (bodyPostS P fn c₀ cs fun e u' w'=>∃ x v,e=.returned v∧u'=u∧St W (Hp x++R) w')) (c₀::cs) (Env.ofArgs args 0) (Hpre++R)):CtD P W f args u Hpre Hp:=by
 refine ⟨fun R w s=>?_⟩;refine callsDIn_of_wpSIn hf hb trivial fun c₀ cs hu=>(h R c₀ cs hu).go _ w ⟨?_,fun t v e=>?_⟩ s rfl
 ·simp [hn];omega
 ·obtain ⟨_,h2⟩:=Env.ofArgs_at args 0 t v e;have hl:=(zLc.1 h2).1;simp only [Nat.sub_zero] at h2 hl;show (args.toArray++_)[t]? = _;rw [Array.getElem?_append_left (by simpa using hl)];simpa using h2
theorem yM9 {f:Func} {c₀:Frame} {cs:List Frame} {u:FrameMode} {X:Type} {Hp:X→List SP} {ex:Exit} (x:X) (hu:c₀.mode=u) (hex:ex=.ret∨ex=.normal) (hr:f.results=#[]) (hE:∀ g,yAH H g→yAH (Hp x++R) g) :KJ W n (yC3 (fun _=>[]) (.ex (.top fun e a w=>bodyPostS P f c₀ cs (fun e u' w'=>∃ x v,e=.returned v∧u'=u∧St W (Hp x++R) w') e a (c₀::cs) w) ex)) E H:=by
 refine ⟨fun a w p s=>?_⟩;have h1:(results f a.tmps).run P w=.ok (.tuple #[]) w:=by simp [Go.results,hr]
 have h2:bodyPostS P f c₀ cs (fun e u' w'=>∃ x v,e=.returned v∧u'=u∧St W (Hp x++R) w') .normal { a with defers:=[] } (c₀::cs) w:=⟨rfl,c₀.mode,rfl,_,h1,x,_,rfl,hu,(s.left).mono hE⟩;rcases hex with rfl|rfl
 ·exact h2
 ·exact h2
theorem KJ.liftDeferV {D:List Deferred→List Deferred} {ops:Array Oper} {l:List Oper} {f:FuncId} {x:Operand} {xs:List Operand} {ts:Array TypeId} {vs:List Value} {fs cs:Array Value} {ty:TypeId} {pos:String} {af:Array Edge} (cI:q.ro=none) (h0:Env.ev E x=some (.func (.func f) fs cs)) (hx:Evs E xs vs) (h:KJ W n (yC3 (fun l=>⟨.fn (.func f) cs,fs++vs.toArray⟩::D l) (.list P ops q l)) E H):KJ W n (yC3 D (.list P ops q (⟨none,.defer { callee:=.value x,args:=xs.toArray,argTypes:=ts },ty,pos,af,none⟩::l))) E H:=
 KJ.liftDefer cI (fun o ho a w p _=>by have e:a.eval x=.func (.func f) fs cs:=p.ev h0;have hv:=p.evs hx;simp [execOp,ho,resolve,e,Deferred.ofValue,hv]) (dd:=none) rfl h
theorem KJ.liftDeferF {D:List Deferred→List Deferred} {ops:Array Oper} {l:List Oper} {f:FuncId} {xs:List Operand} {ts:Array TypeId} {vs:List Value} {ty:TypeId} {pos:String} {af:Array Edge} (cI:q.ro=none) (hx:Evs E xs vs) (h:KJ W n (yC3 (fun l=>⟨.fn (.func f) #[],vs.toArray⟩::D l) (.list P ops q l)) E H):KJ W n (yC3 D (.list P ops q (⟨none,.defer { callee:=.value (.func f),args:=xs.toArray,argTypes:=ts },ty,pos,af,none⟩::l))) E H:=
 KJ.liftDefer cI (fun o ho a w p _=>by have e:a.eval (.func f)=.func (.func f) #[] #[]:=rfl;have hv:=p.evs hx;simp [execOp,ho,resolve,e,Deferred.ofValue,hv]) (dd:=none) rfl h
theorem yLT {f:FuncId} [hf:FnIs P f] (cap args:Array Value) (w:World):(invoke (.fn (.func f) cap) args).run P w=.ok (.enter f (args++cap)) w:=by
 have hf:=hf.h;cases hq:P.funcs[f]? with
 |none=>simp [hq] at hf
 |some fn=>
  simp [hq] at hf;obtain ⟨h1,h2⟩:=hf;have hb:¬ fn.body=none:=by cases h:fn.body <;> simp_all
  simp [invoke,callFunc,Go.program,Sem.run,hq,h2,hb,Result.andThen]
theorem KJ.liftDone2 {f1 f2:FuncId} [FnIs P f1] [FnIs P f2] {bG a1 cC a2:Array Value} {v1 v2:List Value} {H1 H2 R1 R2:List SP} (eA:a1++bG=v1.toArray) (fA:a2++cC=v2.toArray) (c1:CtD P W f1 v1 .returning H1 (fun _:Unit=>H1)) (c2:CtD P W f2 v2 .returning H2 (fun _:Unit=>H2)) (jm:Pick H1 H R1) (iO:Pick H2 H R2) {X:Type} {r:X→Value} {Hp:X→List SP} {fn:Func} {rs:List ResultVar} {vs:List Value} {ex:Exit} (hex:ex=.ret∨ex=.normal) (hr:fn.results=rs.toArray) (hv:Rvs P E H rs vs) (c:X) (hc:yI5 vs=r c) (hE:∀ g,yAH H g→yAH (Hp c++R) g) :KJ W n (yC3 (fun l=>⟨.fn (.func f2) cC,a2⟩::⟨.fn (.func f1) bG,a1⟩::l) (.ex (.top (bodyPostM Fence.wide 0 P fn (yRM W r Hp R))) ex)) E H:=by
 refine KJ.liftTop fun a w p s=>?_;have cX:=yEB (W:=W) (P:=P) (fn:=fn) (tmps:=a.tmps) (R:=R) c hc hE (fun w s=>hv.results_run hr p s) a.defers;have st1:∀ w,St W (H++dm a.defers) w→LeavesInM Fence.wide 0 P fn a.tmps (yRM W r Hp R) (⟨.fn (.func f1) bG,a1⟩::a.defers) .returning w:=fun w s=>
  yIa c1 zW rfl (by rw [← eA];exact yLT bG a1 w) ((s.perm (jm.perm.append_right _)).perm (by rw [zLd])) (fun x w' s'=>cX w' (s'.perm ((show (H1++(R1++dm a.defers)).Perm ((H1++R1)++dm a.defers) by rw [zLd]).trans (jm.perm.symm.append_right _))))
 have st2:LeavesInM Fence.wide 0 P fn a.tmps (yRM W r Hp R) (⟨.fn (.func f2) cC,a2⟩::⟨.fn (.func f1) bG,a1⟩::a.defers) .returning w:=
  yIa c2 zW rfl (by rw [← fA];exact yLT cC a2 w) ((s.perm (iO.perm.append_right _)).perm (by rw [zLd])) (fun x w' s'=>st1 w' (s'.perm ((show (H2++(R2++dm a.defers)).Perm ((H2++R2)++dm a.defers) by rw [zLd]).trans (iO.perm.symm.append_right _))))
 rcases hex with rfl|rfl
 ·exact st2
 ·exact st2
end
section
variable {W:World} {F:Nat→Addr} {q s d n g:Nat} {D:Dsk}
instance xBM:FnIs prog 48:=⟨zK⟩
instance xCw:FnIs prog 47:=⟨zK⟩
instance xC5:FnIs prog 50:=⟨zK⟩
theorem yKJ (g:Nat):CtD prog W 48 [zPp g] .returning [] (fun _:Unit=>[]):=by
 refine CtD.enter func48 rfl ntmps48 zW (fun R c₀ cs hu=>?_);refine yYS ?_;refine yOk ?_;refine yLA (i:=0) (rest:=[]) rfl (by simp [recoverD,hu]) rfl ?_;refine yYT ?_;refine yU7 ?_;refine yKI ?_;repeat' (first|refine KJ.liftStp (by constructor) ?_|refine KJ.liftCondT rfl ?_|refine KJ.liftCondF rfl ?_|refine KJ.liftOper ?_|refine xst ?_|refine xsf ?_ ?_|intro _)
 all_goals exact yM9 () hu zor rfl (xN)
theorem yQ8 (ge gs:Nat):CtD prog W 47 [zPp ge,zPp gs] .returning [yAj ge [.nilIface] 27] (fun _:Unit=>[yAj ge [.nilIface] 27]):=by
 refine CtD.enter func47 rfl ntmps47 zW (fun R c₀ cs hu=>?_);refine yKI ?_;repeat' (first|refine KJ.liftStp (by constructor) ?_|refine KJ.liftCondT rfl ?_|refine KJ.liftCondF rfl ?_|refine KJ.liftOper ?_|refine xst ?_|refine xsf ?_ ?_|intro _)
 all_goals exact yM9 () hu zor rfl (xN)
end
theorem Ct.to {P:Program} {W:World} {f:FuncId} {args:List Value} {Hpre:List SP} {X Y:Type} {r:X→Value} {r':Y→Value} {H':X→List SP} {H'':Y→List SP} (h:Ct P W f args Hpre r H') (φ:X→Y) (hr:∀ x,r x=r' (φ x)) (hE:∀ x R g,yAH (H' x++R) g→yAH (H'' (φ x)++R) g):Ct P W f args Hpre r' H'':=
 ⟨fun R w s=>(h.go R w s).mono fun _ _ ⟨x,he,s⟩=>⟨φ x,by rw [← hr];exact he,s.mono (hE x R)⟩⟩
end Go.Proofs.YtoipmnikdiogcaaGreatDoor
