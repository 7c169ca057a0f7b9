/-
  DfR, PnR, DeR, StW7, TxW4, TxW5.
-/
import Derived.Test.YtgipenahkmbelaaGreatDoorTAK
import Derived.RecoverIn
import Derived.WalkSmall
import Derived.Test.YtgipenahkmbelaaGreatDoorTEC
import Derived.Test.YtgipenahkmbelaaGreatDoorTDW
set_option maxHeartbeats 64000000
namespace Go.Proofs.YtgipenahkmbelaaGreatDoor
open Go Go.RowKit
abbrev plTEI0:Pl:=(.op 0 (.op 1 (.op 2 (.op 3 (.op 4 (.ef 5 [] .nil))))))
def liftK (D:List Deferred→List Deferred) (k:KK):KK:=.raw fun a w=>k.den { a with defers:=D a.defers } w
section
variable {P:Program} {W:World} {n d:Nat} {E:Env} {H R:List SP} {k k':KK} {q:QQ} {D:List Deferred→List Deferred} {op:Op} {dd:Option Tmp} {ops:Array Oper} {l:List Oper} {x y:Code} {c:Operand}
theorem KJ.lift0 (h:KJ W n (liftK (fun l=>l) k) E H):KJ W n k E H:=⟨fun a w p s=>h.go a w p s⟩
theorem uponP.lift {o:Oper} {a:Act} {r:Result Next} (h:uponP P o a (liftK D k).den r):uponP P o { a with defers:=D a.defers } k.den r:=by
 have e:∀ v w,(liftK D k).den (a.put o.dst v) w→k.den (({ a with defers:=D a.defers }:Act).put o.dst v) w:=fun v w=>by
  cases o.dst <;> exact id
 unfold uponP at h ⊢
 split
 ·exact e _ _ h
 ·exact e _ _ h
 ·exact h.mono fun ee w ⟨v,he,hn⟩=>⟨v,he,e _ _ hn⟩
 ·exact h.mono fun ee w ⟨v,he,hn⟩=>⟨v,he,e _ _ hn⟩
 ·simp_all
theorem KJ.liftOper (h:KJ W n (.oper P op dd (liftK D k)) E H):KJ W n (liftK D (.oper P op dd k)) E H:=
 ⟨fun a w p s o ho hd=>(h.go a w p s o ho hd).lift⟩
theorem Stp.den (s:Stp k k'):∀ a w,k'.den a w→k.den a w:=by
 intro a w
 cases s with
 |seq=>exact wpIn_seq
 |region=>exact wpIn_region_lit
 |plain=>
  exact fun h=>wpListIn_step fun _ hK=>by
   rw [if_pos (by simp [Region.wanted])]
   exact ((h _ rfl rfl).mono hK).wpIn _ _
 |nil=>exact id
 |skip=>exact wpIn_skip
 |ret=>exact wpIn_ret
 |exit=>exact wpIn_exit
 |block=>exact wpIn_block
 |seq_normal=>exact id
 |seq_ret=>exact id
 |seq_exit=>exact id
 |thn_normal=>exact id
 |thn_ret=>exact id
 |thn_exit=>exact id
 |blk_normal=>exact id
 |blk_ret=>exact id
 |blk_exit=>intro h;simpa [KK.den,QQ.den,Exit.inBlock] using h
theorem KJ.liftStp (s:Stp k k') (h:KJ W n (liftK D k') E H):KJ W n (liftK D k) E H:=⟨fun a w p q=>s.den _ _ (h.go a w p q)⟩
theorem KJ.liftDraws {id:Nat} {l:List Oper} (p:Pl) (hm:P.follows .mixedOrders=true) (hB:drawB l p=true) (h:FW P W n l.toArray (liftK D (.ex q .normal)) p E H):KJ W n (liftK D (.code P (Code.region id l.toArray true) q)) E H:=
 ⟨fun _ _ hd st=>drawn_any (g:=D) (k:=liftK D (.ex q .normal)) (fun _ _ h=>h) p hm hB h.go hd st⟩
theorem KJ.liftCondT (hc:Env.ev E c=some (.bool true)) (h:KJ W n (liftK D (.code P x q)) E H):KJ W n (liftK D (.code P (Code.cond c x y) q)) E H:=
 ⟨fun a w p s=>wpIn_cond_split (t:=true) (p.ev hc) (fun _=>h.go a w p s) (fun e=>by cases e)⟩
theorem KJ.liftCondF (hc:Env.ev E c=some (.bool false)) (h:KJ W n (liftK D (.code P y q)) E H):KJ W n (liftK D (.code P (Code.cond c x y) q)) E H:=
 ⟨fun a w p s=>wpIn_cond_split (t:=false) (p.ev hc) (fun e=>by cases e) (fun _=>h.go a w p s)⟩
theorem KJ.liftDefer {cl:Call} {e:Deferred} {ty:TypeId} {pos:String} {af:Array Edge} (hro:q.ro=none) (hr:∀ o:Oper,o.op=.defer cl→∀ a w,Hd n E a→St W H w→(execOp a.eval o).run P w=.ok (.defer e) w) (hn:dstOk n dd=true)
 (h:KJ W n (liftK (fun l=>e::D l) (.list P ops q l)) (Env.put E dd undef) H):KJ W n (liftK D (.list P ops q (⟨dd,.defer cl,ty,pos,af,none⟩::l))) E H:=by
 refine ⟨fun a w p s=>?_⟩
 show wpListIn (fen q.ro) 0 P ops q.den (⟨dd,.defer cl,ty,pos,af,none⟩::l) { a with defers:=D a.defers } w
 refine wpListIn_step fun K hK=>?_
 rw [if_pos (by simp [Region.wanted])]
 refine ⟨fun _ _=>trivial,?_⟩
 have hs:(⟨dd,.defer cl,ty,pos,af,none⟩:Oper).semAt (fen q.ro).round ({ a with defers:=D a.defers }:Act).eval=execOp a.eval ⟨dd,.defer cl,ty,pos,af,none⟩:=by
  rw [show (fen q.ro).round=none from hro]
  rfl
 rw [hs,hr _ rfl a w p s.left]
 refine hK _ _ ?_
 have h2:=h.go (a.put dd undef) w (p.put hn undef) (by show St W (H++dm (a.put dd undef).defers) w;rw [put_defers];exact s)
 cases dd <;> exact h2
theorem KJ.liftTop {Q:Exit→Act→World→Prop} {ex:Exit} (h:∀ a w,Hd n E a→Sta W H a w→Q ex { a with defers:=D a.defers } w):KJ W n (liftK D (.ex (.top Q) ex)) E H:=⟨h⟩
end
structure CtD (P:Program) (W:World) (f:FuncId) (args:List Value) (u:FrameMode) (Hpre:List SP) {X:Type} (Hp:X→List SP):Prop where
 go:∀ R w,St W (Hpre++R) w→CallsDIn Fence.wide 0 P f args.toArray u w fun e u' w'=>∃ x v,e=.returned v∧u'=u∧St W (Hp x++R) w'
theorem leaves_fn {P:Program} {W:World} {fn:Func} {tmps:Array Value} {Rr:Ending→World→Prop} {d:Deferred} {ds:List Deferred} {u:FrameMode} {w:World} {f:FuncId} {args:List Value} {Hpre R:List SP} {X:Type} {Hp:X→List SP} (cd:CtD P W f args u Hpre Hp) (hu:u≠.run) {fv:Fn} {cap:Array Value} (htar:d.target=.fn fv cap) (hinv:(invoke d.target d.args).run P w=.ok (.enter f args.toArray) w)
 (s:St W (Hpre++R) w) (h:∀ x w',St W (Hp x++R) w'→LeavesInM Fence.wide 0 P fn tmps Rr ds (settle u) w'):LeavesInM Fence.wide 0 P fn tmps Rr (d::ds) u w:=by
 refine ⟨hu,.inr ⟨fun e=>by simp [Fence.wide] at e,fv,cap,f,args.toArray,htar,hinv,fun _ _=>trivial,?_⟩⟩
 obtain ⟨hF,hc⟩:=cd.go R w s
 refine ⟨hF,fun c cs hm hr=>?_⟩
 obtain ⟨e,u',w',fr,⟨x,v,rfl,rfl,hS⟩,h1,h2,h3,h4⟩:=hc c cs hm hr
 exact ⟨_,_,w',fr,h x w' hS,h1,h2,h3,h4⟩
end Go.Proofs.YtgipenahkmbelaaGreatDoor
namespace Go.Proofs.YtgipenahkmbelaaGreatDoor
open Go Go.RowKit
abbrev pnc (v:Value):List PanicEntry:=[{ v,recovered:=false }]
structure Pn (P:Program) (W:World) (f:FuncId) (args:List Value) (Hpre:List SP) {X:Type} (v:X→Value) (H':X→List SP):Prop where
 go:∀ R w,St W (Hpre++R) w→Calls P f args.toArray w fun e w'=>∃ x,e=.panicked (pnc (v x))∧St W (H' x++R) w'
def PostP (W:World) {X:Type} (v:X→Value) (H':X→List SP) (R:List SP):Ending→World→Prop:=fun e w=>∃ x,e=.panicked (pnc (v x))∧St W (H' x++R) w
section
variable {P:Program} {W:World} {n:Nat} {q:QQ} {k:KK} {E:Env} {H H' R:List SP} {ops:Array Oper} {l:List Oper} {x:Operand} {X:Type} {d:Option Tmp} {ty:TypeId} {pos:String} {af:Array Edge}
theorem Pn.enter {f:FuncId} {args:List Value} {Hpre:List SP} {r:X→Value} {Hp:X→List SP} {fn:Func} {c:Code} (hf:P.funcs[f]? = some fn) (hb:fn.body=some c) (hn:fn.ntmps=n) (hk:args.length≤n)
 (h:∀ R,KJ W n (.code P c (.top (bodyPostM Fence.wide 0 P fn (PostP W r Hp R)))) (Env.ofArgs args 0) (Hpre++R)):Pn P W f args Hpre r Hp:=by
 refine ⟨fun R w s=>?_⟩
 refine callsIn_wide.1 (callsIn_of_wp_marks (F:=Fence.wide) (n:=0) hf hb trivial ((h R).go _ w ⟨?_,fun t v e=>?_⟩ (s.perm (by show (Hpre++R).Perm ((Hpre++R)++[]);rw [List.append_nil]))))
 ·simp [hn];omega
 ·obtain ⟨_,h2⟩:=Env.ofArgs_at args 0 t v e
  have hl:=(List.getElem?_eq_some_iff.1 h2).1
  simp only [Nat.sub_zero] at h2 hl
  show (args.toArray++_)[t]? = _
  rw [Array.getElem?_append_left (by simpa using hl)]
  simpa using h2
end
end Go.Proofs.YtgipenahkmbelaaGreatDoor
namespace Go.Proofs.YtgipenahkmbelaaGreatDoor
open Go Go.RowKit
section
variable {P:Program} {W:World} {n:Nat} {E:Env} {H H' R:List SP} {q:QQ}
structure KS (W:World) (n:Nat) (K:Act→List Frame→World→Prop) (cs:List Frame) (E:Env) (H:List SP):Prop where
 go:∀ a w,Hd n E a→St W H w→a.defers=[]→K a cs w
theorem KS_seq {x y:Code} {Q:Exit→Act→List Frame→World→Prop} {cs:List Frame} (h:KS W n (x.wpSIn Fence.wide 0 P (Exit.thenS (y.wpSIn Fence.wide 0 P Q) Q)) cs E H):KS W n ((Code.seq x y).wpSIn Fence.wide 0 P Q) cs E H:=
 ⟨fun a w p s d=>wpSIn_seq (h.go a w p s d)⟩
theorem KS_region {id:Nat} {ops:Array Oper} {Q:Exit→Act→List Frame→World→Prop} {cs:List Frame} (h:KS W n (wpOpsSIn Fence.wide 0 P ops Q (List.range ops.size)) cs E H):KS W n ((Code.region id ops false).wpSIn Fence.wide 0 P Q) cs E H:=
 ⟨fun a w p s d=>wpSIn_region (h.go a w p s d)⟩
theorem KS_rest {c:Code} {Q:Exit→Act→List Frame→World→Prop} {cs:List Frame} (h:KJ W n (liftK (fun _=>[]) (.code P c (.top fun e a w=>Q e a cs w))) E H):KS W n (c.wpSIn Fence.wide 0 P Q) cs E H:=
 ⟨fun a w p s d=>wpSIn_of_wpIn rfl (by
  have h1:=h.go { a with defers:=[] } w ⟨p.size,p.at_⟩ (by show St W (H++[]) w;rw [List.append_nil];exact s)
  have e:({ a with defers:=[] }:Act)=a:=by rw [← d]
  have h1:c.wpIn Fence.wide 0 P (fun e a w=>Q e a cs w) { a with defers:=[] } w:=h1
  rw [e] at h1
  exact h1)⟩
theorem KS_recoverNone {ops:Array Oper} {i:Nat} {rest:List Nat} {Q:Exit→Act→List Frame→World→Prop} {cs:List Frame} {d:Option Tmp} {ty:TypeId} {pos:String} {af:Array Edge} (hi:ops[i]? = some ⟨d,.call { callee:=.builtin .recover,args:=#[],argTypes:=#[] },ty,pos,af,none⟩) (hr:recoverD cs=none) (hd:dstOk n d=true)
 (h:KS W n (wpOpsSIn Fence.wide 0 P ops Q rest) cs (Env.put E d .nilIface) H):KS W n (wpOpsSIn Fence.wide 0 P ops Q (i::rest)) cs E H:=by
 refine ⟨fun a w p s e=>?_⟩
 simp only [wpOpsSIn,hi]
 refine ⟨fun _ _=>trivial,?_⟩
 rw [if_pos (by simp [Region.wanted])]
 have hrun:(execOp a.eval ⟨d,.call { callee:=.builtin .recover,args:=#[],argTypes:=#[] },ty,pos,af,none⟩).run P w=.ok .recover w:=by
  simp [execOp,resolve,invoke,builtin]
 rw [hrun]
 simp only [hr]
 exact h.go _ w (p.put hd .nilIface) s (by cases d <;> exact e)
theorem KS_nil {ops:Array Oper} {Q:Exit→Act→List Frame→World→Prop} {cs:List Frame} (h:KS W n (Q .normal) cs E H):KS W n (wpOpsSIn Fence.wide 0 P ops Q []) cs E H:=⟨fun a w p s e=>h.go a w p s e⟩
theorem KS_then {next:Act→List Frame→World→Prop} {Q:Exit→Act→List Frame→World→Prop} {cs:List Frame} (h:KS W n next cs E H):KS W n (Exit.thenS next Q .normal) cs E H:=⟨fun a w p s e=>h.go a w p s e⟩
theorem CtD.enter {f:FuncId} {args:List Value} {u:FrameMode} {Hpre:List SP} {X:Type} {Hp:X→List SP} {fn:Func} {c:Code} (hf:P.funcs[f]? = some fn) (hb:fn.body=some c) (hn:fn.ntmps=n) (hk:args.length≤n)
 (h:∀ (R:List SP) (c₀:Frame) (cs:List Frame),c₀.mode=u→KS W n (c.wpSIn Fence.wide 0 P (bodyPostS P fn c₀ cs fun e u' w'=>∃ x v,e=.returned v∧u'=u∧St W (Hp x++R) w')) (c₀::cs) (Env.ofArgs args 0) (Hpre++R)):CtD P W f args u Hpre Hp:=by
 refine ⟨fun R w s=>?_⟩
 refine callsDIn_of_wpSIn hf hb trivial fun c₀ cs hu=>(h R c₀ cs hu).go _ w ⟨?_,fun t v e=>?_⟩ s rfl
 ·simp [hn];omega
 ·obtain ⟨_,h2⟩:=Env.ofArgs_at args 0 t v e
  have hl:=(List.getElem?_eq_some_iff.1 h2).1
  simp only [Nat.sub_zero] at h2 hl
  show (args.toArray++_)[t]? = _
  rw [Array.getElem?_append_left (by simpa using hl)]
  simpa using h2
theorem KJ_doneD {f:Func} {c₀:Frame} {cs:List Frame} {u:FrameMode} {X:Type} {Hp:X→List SP} {ex:Exit} (x:X) (hu:c₀.mode=u) (hex:ex=.ret∨ex=.normal) (hr:f.results=#[]) (hE:∀ g,zAj H g→zAj (Hp x++R) g) :
 KJ W n (liftK (fun _=>[]) (.ex (.top fun e a w=>bodyPostS P f c₀ cs (fun e u' w'=>∃ x v,e=.returned v∧u'=u∧St W (Hp x++R) w') e a (c₀::cs) w) ex)) E H:=by
 refine ⟨fun a w p s=>?_⟩
 have h1:(results f a.tmps).run P w=.ok (.tuple #[]) w:=by
  simp [Go.results,hr]
 have h2:bodyPostS P f c₀ cs (fun e u' w'=>∃ x v,e=.returned v∧u'=u∧St W (Hp x++R) w') .normal { a with defers:=[] } (c₀::cs) w:=⟨rfl,c₀.mode,rfl,_,h1,x,_,rfl,hu,(s.left).mono hE⟩
 rcases hex with rfl|rfl
 ·exact h2
 ·exact h2
theorem KJ.liftDeferV {D:List Deferred→List Deferred} {ops:Array Oper} {l:List Oper} {f:FuncId} {x:Operand} {xs:List Operand} {ts:Array TypeId} {vs:List Value} {fs cs:Array Value} {ty:TypeId} {pos:String} {af:Array Edge} (hro:q.ro=none) (h0:Env.ev E x=some (.func (.func f) fs cs)) (hx:Evs E xs vs)
 (h:KJ W n (liftK (fun l=>⟨.fn (.func f) cs,fs++vs.toArray⟩::D l) (.list P ops q l)) E H):KJ W n (liftK D (.list P ops q (⟨none,.defer { callee:=.value x,args:=xs.toArray,argTypes:=ts },ty,pos,af,none⟩::l))) E H:=
 KJ.liftDefer hro (fun o ho a w p _=>by
  have e:a.eval x=.func (.func f) fs cs:=p.ev h0
  have hv:=p.evs hx
  simp [execOp,ho,resolve,e,Deferred.ofValue,hv]) (dd:=none) rfl h
theorem KJ.liftDeferF {D:List Deferred→List Deferred} {ops:Array Oper} {l:List Oper} {f:FuncId} {xs:List Operand} {ts:Array TypeId} {vs:List Value} {ty:TypeId} {pos:String} {af:Array Edge} (hro:q.ro=none) (hx:Evs E xs vs)
 (h:KJ W n (liftK (fun l=>⟨.fn (.func f) #[],vs.toArray⟩::D l) (.list P ops q l)) E H):KJ W n (liftK D (.list P ops q (⟨none,.defer { callee:=.value (.func f),args:=xs.toArray,argTypes:=ts },ty,pos,af,none⟩::l))) E H:=
 KJ.liftDefer hro (fun o ho a w p _=>by
  have e:a.eval (.func f)=.func (.func f) #[] #[]:=rfl
  have hv:=p.evs hx
  simp [execOp,ho,resolve,e,Deferred.ofValue,hv]) (dd:=none) rfl h
theorem inv_fn {f:FuncId} [hf:FnIs P f] (cap args:Array Value) (w:World):(invoke (.fn (.func f) cap) args).run P w=.ok (.enter f (args++cap)) w:=by
 have hf:=hf.h
 cases hq:P.funcs[f]? with
 |none=>simp [hq] at hf
 |some fn=>
  simp [hq] at hf
  obtain ⟨h1,h2⟩:=hf
  have hb:¬ fn.body=none:=by cases h:fn.body <;> simp_all
  simp [invoke,callFunc,Go.program,Sem.run,hq,h2,hb,Result.andThen]
theorem KJ.liftDone2 {f1 f2:FuncId} [FnIs P f1] [FnIs P f2] {cap1 a1 cap2 a2:Array Value} {v1 v2:List Value} {H1 H2 R1 R2:List SP} (hv1:a1++cap1=v1.toArray) (hv2:a2++cap2=v2.toArray) (c1:CtD P W f1 v1 .returning H1 (fun _:Unit=>H1)) (c2:CtD P W f2 v2 .returning H2 (fun _:Unit=>H2)) (hp1:Pick H1 H R1) (hp2:Pick H2 H R2)
 {X:Type} {r:X→Value} {Hp:X→List SP} {fn:Func} {rs:List ResultVar} {vs:List Value} {ex:Exit} (hex:ex=.ret∨ex=.normal) (hr:fn.results=rs.toArray) (hv:Rvs P E H rs vs) (c:X) (hc:tupleV vs=r c) (hE:∀ g,zAj H g→zAj (Hp c++R) g) :
 KJ W n (liftK (fun l=>⟨.fn (.func f2) cap2,a2⟩::⟨.fn (.func f1) cap1,a1⟩::l) (.ex (.top (bodyPostM Fence.wide 0 P fn (Post W r Hp R))) ex)) E H:=by
 refine KJ.liftTop fun a w p s=>?_
 have fin:=leaves_marks (W:=W) (P:=P) (fn:=fn) (tmps:=a.tmps) (R:=R) c hc hE (fun w s=>hv.results_run hr p s) a.defers
 have st1:∀ w,St W (H++dm a.defers) w→LeavesInM Fence.wide 0 P fn a.tmps (Post W r Hp R) (⟨.fn (.func f1) cap1,a1⟩::a.defers) .returning w:=fun w s=>
  leaves_fn c1 (by simp) rfl (by rw [← hv1];exact inv_fn cap1 a1 w) ((s.perm (hp1.perm.append_right _)).perm (by rw [List.append_assoc])) (fun x w' s'=>fin w' (s'.perm ((show (H1++(R1++dm a.defers)).Perm ((H1++R1)++dm a.defers) by rw [List.append_assoc]).trans (hp1.perm.symm.append_right _))))
 have st2:LeavesInM Fence.wide 0 P fn a.tmps (Post W r Hp R) (⟨.fn (.func f2) cap2,a2⟩::⟨.fn (.func f1) cap1,a1⟩::a.defers) .returning w:=
  leaves_fn c2 (by simp) rfl (by rw [← hv2];exact inv_fn cap2 a2 w) ((s.perm (hp2.perm.append_right _)).perm (by rw [List.append_assoc])) (fun x w' s'=>st1 w' (s'.perm ((show (H2++(R2++dm a.defers)).Perm ((H2++R2)++dm a.defers) by rw [List.append_assoc]).trans (hp2.perm.symm.append_right _))))
 rcases hex with rfl|rfl
 ·exact st2
 ·exact st2
end
end Go.Proofs.YtgipenahkmbelaaGreatDoor
namespace Go.Proofs.YtgipenahkmbelaaGreatDoor
open Go Go.RowKit
section
variable {W:World} {F:Nat→Addr} {q s d n g:Nat} {D:Dsk}
instance fn_caught:FnIs Tryz.prog 68:=⟨by kernel_rfl⟩
instance fn_open1:FnIs Tryz.prog 67:=⟨by kernel_rfl⟩
instance fn_load:FnIs Tryz.prog 69:=⟨by kernel_rfl⟩
theorem caught_ct (g:Nat):CtD Tryz.prog W 68 [.pointer (some ⟨g,0,none⟩)] .returning [] (fun _:Unit=>[]):=by
 refine CtD.enter Tryz.func68 rfl Tryz.ntmps68 (by simp) (fun R c₀ cs hu=>?_)
 refine KS_seq ?_
 refine KS_region ?_
 refine KS_recoverNone (i:=0) (rest:=[]) rfl (by simp [recoverD,hu]) rfl ?_
 refine KS_nil ?_
 refine KS_then ?_
 refine KS_rest ?_
 repeat' (first|(refine KJ.liftStp (by constructor) ?_)|(refine KJ.liftCondT rfl ?_)|(refine KJ.liftCondF rfl ?_)|(refine KJ.liftOper ?_)|refine xst ?_|(refine xsa ?_;intro _)|(refine xsb ?_ ?_ <;>intro _<;>try (exfalso;omega))|refine xsc ?_|fail)
 all_goals exact KJ_doneD () hu (by first|exact Or.inl rfl|exact Or.inr rfl) rfl (xN)
theorem open1_ct (ge gs:Nat):CtD Tryz.prog W 67 [.pointer (some ⟨ge,0,none⟩),.pointer (some ⟨gs,0,none⟩)] .returning [zAh ge [.nilIface] 40] (fun _:Unit=>[zAh ge [.nilIface] 40]):=by
 refine CtD.enter Tryz.func67 rfl Tryz.ntmps67 (by simp) (fun R c₀ cs hu=>?_)
 refine KS_rest ?_
 repeat' (first|(refine KJ.liftStp (by constructor) ?_)|(refine KJ.liftCondT rfl ?_)|(refine KJ.liftCondF rfl ?_)|(refine KJ.liftOper ?_)|refine xst ?_|(refine xsa ?_;intro _)|(refine xsb ?_ ?_ <;>intro _<;>try (exfalso;omega))|refine xsc ?_|fail)
 all_goals exact KJ_doneD () hu (by first|exact Or.inl rfl|exact Or.inr rfl) rfl (xN)
end
end Go.Proofs.YtgipenahkmbelaaGreatDoor
namespace Go.Proofs.YtgipenahkmbelaaGreatDoor
open Go Go.RowKit
theorem Ct.to {P:Program} {W:World} {f:FuncId} {args:List Value} {Hpre:List SP} {X Y:Type} {r:X→Value} {r':Y→Value} {H':X→List SP} {H'':Y→List SP} (h:Ct P W f args Hpre r H') (φ:X→Y) (hr:∀ x,r x=r' (φ x)) (hE:∀ x R g,zAj (H' x++R) g→zAj (H'' (φ x)++R) g):Ct P W f args Hpre r' H'':=
 ⟨fun R w s=>(h.go R w s).mono fun _ _ ⟨x,he,s⟩=>⟨φ x,by rw [← hr];exact he,s.mono (hE x R)⟩⟩
def TxQ (t:Nat) (r:Rows) (ended:Bool) (m:Nat):SP:=packP 83 t (fun x:{x:Nat × List (List UInt8 × Bool) × List UE//x.2.2.length≤m}=>[TxP [] t x.1.1 r x.1.2.1 x.1.2.2 ended])
theorem TxQ.star {M:List Nd} {t s m:Nat} {r:Rows} {K:List (List UInt8 × Bool)} {U:List UE} {ended:Bool} (hU:U.length≤m) {R:List SP}:∀ g,zAj (TxP M t s r K U ended::R) g→zAj (TxQ t r ended m::R) g:=fun g q=>
 pack_star (F:=fun x:{x:Nat × List (List UInt8 × Bool) × List UE//x.2.2.length≤m}=>[TxP [] t x.1.1 r x.1.2.1 x.1.2.2 ended]) ⟨(s,K,U),hU⟩ g (TxP.weak (M':=[]) (fun _ h=>nomatch h) g q)
end Go.Proofs.YtgipenahkmbelaaGreatDoor
namespace Go.Proofs.YtgipenahkmbelaaGreatDoor
open Go Go.RowKit
section
variable {W:World} {M:List Nd} {t s m:Nat} {r:Rows} {K:List (List UInt8 × Bool)} {U:List UE}
instance fn_del1:FnIs Tryz.prog 40:=⟨by kernel_rfl⟩
instance fn_txdel:FnIs Tryz.prog 12:=⟨by kernel_rfl⟩
abbrev delP (t:Nat) (key:List UInt8) (g3 g4:Nat):List SP:=[zAh g3 [.pointer (some ⟨t,0,none⟩)] 37,zAh g4 [strV key] 9]
theorem del1_ct (key:List UInt8) (g3 g4:Nat) (hl:r.length≤288230376151711744):DoC W 40 [.pointer (some ⟨g3,0,none⟩),.pointer (some ⟨g4,0,none⟩)] (allP 82 (delP t key g3 g4)) t r (mdel r key):=fun s x l hT=>by
 have cp:=tdel_ct (W:=W) (p:=x.q) (b:=x.b) (k:=key) hT hl
 refine Ct.enter Tryz.func40 rfl Tryz.ntmps40 (by simp) (fun R=>?_)
 refine KJ.allOpen (L:=delP t key g3 g4) xS ?_
 repeat' (first|(refine zAd ?_;refine zAc xE cp xP rfl (fun y=>?_);obtain ⟨⟨N1,a1,b1⟩,g1,t1⟩:=y;dsimp only at g1 t1 ⊢)|refine xst ?_|(refine xsa ?_;intro _)|(refine xsb ?_ ?_ <;>intro _<;>try (exfalso;omega))|refine xsc ?_|(refine zAa (id:=0) plTEI0 (by kernel_rfl) (by kernel_rfl) ?_)|refine zAp ?_ ?_|refine zAn rfl rfl rfl rfl rfl ?_ ?_|refine zAg ?_ ?_|exact Rech.nil|fail)
 all_goals refine KJ.allShut (L:=delP t key g3 g4) 82 xP ?_
 all_goals (exact xdn ⟨(N1,a1,b1),g1,t1⟩)
theorem txdel_ct (key:List UInt8) (hl:r.length≤288230376151711744) (hU:(U.length+1)*8≤140737488355328) :
 Ct Tryz.prog W 12 [.pointer (some ⟨t,0,none⟩),strV key] [TxP M t s r K U false] (fun _:Nat × Nat × Nat × Nat=>.nilIface)
  (fun z=>[TxP M t s (mdel r key) (mput K key true) (U++[⟨key,(lk r key).getD [],(lk r key).isSome,z.1,z.2.1,z.2.2.1,z.2.2.2⟩]) false]):=by
 have cs:=fun g3 g4=>step_ct (W:=W) (M:=M) (t:=t) (s:=s) (r:=r) (K:=K) (U:=U) 40 _ _ (del1_ct key g3 g4 hl) key hU
 refine Ct.enter Tryz.func12 rfl Tryz.ntmps12 (by simp) (fun R=>?_)
 repeat' (first|(refine zBe ?_;first|(refine zBb (d:=3) rfl xF rfl (fun g4=>?_))|(refine zBb (d:=2) rfl xF rfl (fun g3=>?_)))|(refine zAd ?_;refine KJ.allShut (L:=delP t key g3 g4) 82 xP ?_;refine zAc xE (cs _ _) xP rfl (fun z=>?_))|(refine ek_mkFunc ?_;refine zAb (Ev_mkFunc2 rfl rfl) ?_)|refine xst ?_|(refine xsa ?_;intro _)|(refine xsb ?_ ?_ <;>intro _<;>try (exfalso;omega))|refine xsc ?_|fail)
 all_goals (exact xdn z)
end
end Go.Proofs.YtgipenahkmbelaaGreatDoor
