/-
  DeS, StWD, StF0, StL0, StL1, StR0, StR1.
-/
import Derived.Test.YtlnbkbfblhofbaaGreatDoorVHT
set_option maxRecDepth 100000
set_option maxHeartbeats 64000000
namespace Go.Proofs.YtlnbkbfblhofbaaGreatDoor
open Go Go.RowKit
open Go.Proofs.Tryz
abbrev yZz:Pl:=(.op 0 (.op 1 (.op 2 (.op 3 (.op 4 (.op 8 (.ef 5 [8,0] (.op 6 (.op 7 (.ef 9 [] .nil))))))))))
abbrev yZA:Pl:=(.op 0 (.op 1 (.op 2 (.op 3 (.op 4 (.op 5 (.op 6 (.op 7 (.op 8 (.op 9 (.op 10 (.op 11 (.op 12 (.op 13 (.op 14 (.op 15 (.op 16 (.op 17 (.op 18 (.op 19 (.ef 20 [] (.op 21 (.op 22 (.op 23 (.op 24 (.op 25 .nil))))))))))))))))))))))))))
abbrev yZB:Pl:=(.op 0 (.op 1 (.op 2 (.op 3 (.op 4 (.op 5 (.op 6 (.op 7 (.op 8 (.op 9 (.op 10 (.op 11 (.op 12 (.op 13 (.op 14 (.ef 15 [] (.op 16 (.op 17 (.op 18 (.op 19 (.op 20 .nil)))))))))))))))))))))
abbrev yZC:Pl:=(.op 0 (.op 1 (.op 2 (.op 3 (.op 5 (.op 8 (.ef 4 [8,5] (.ef 6 [8] (.op 7 (.ef 9 [] .nil))))))))))
abbrev yPw:Pl:=(.op 0 (.ef 1 [0] (.ef 2 [] .nil)))
abbrev yWJ:Pl:=(.op 0 (.op 1 (.ef 2 [0] (.ef 3 [] (.ef 4 [] .nil)))))
abbrev yTn:Pl:=(.op 0 (.op 1 (.op 2 (.op 3 (.op 4 (.op 5 (.op 6 (.op 7 (.op 8 .nil)))))))))
section
variable {P:Program} {W:World} {n:Nat} {E:Env} {H H' R:List SP} {q:QQ} {X:Type}
structure CtR (P:Program) (W:World) (f:FuncId) (args:List Value) (u u':FrameMode) (Hpre:List SP) {X:Type} (Hp:X→List SP):Prop where
 go:∀ R w,St W (Hpre++R) w→CallsDIn Fence.wide 0 P f args.toArray u w fun e m w'=>∃ x v,e=.returned v∧m=u'∧St W (Hp x++R) w'
theorem CtR.enter {f:FuncId} {args:List Value} {u u':FrameMode} {Hpre:List SP} {Hp:X→List SP} {fn:Func} {c:Code} (hf:P.funcs[f]? = some fn) (hb:fn.body=some c) (hn:fn.ntmps=n) (hk:args.length≤n)
 (h:∀ (R:List SP) (c₀:Frame) (cs:List Frame),c₀.mode=u→KS W n (c.wpSIn Fence.wide 0 P (bodyPostS P fn c₀ cs fun e m w'=>∃ x v,e=.returned v∧m=u'∧St W (Hp x++R) w')) (c₀::cs) (Env.ofArgs args 0) (Hpre++R)):CtR P W f args u u' Hpre Hp:=by
 refine ⟨fun R w s=>?_⟩
 refine callsDIn_of_wpSIn hf hb trivial fun c₀ cs hu=>(h R c₀ cs hu).go _ w ⟨?_,fun t v e=>?_⟩ s rfl
 ·simp [hn];omega
 ·obtain ⟨_,h2⟩:=Env.ofArgs_at args 0 t v e
  have hl:=(zLc.1 h2).1
  simp only [Nat.sub_zero] at h2 hl
  show (args.toArray++_)[t]? = _
  rw [Array.getElem?_append_left (by simpa using hl)]
  simpa using h2
theorem yPx {f:Func} {c₀:Frame} {cs:List Frame} {u':FrameMode} {Hp:X→List SP} {ex:Exit} (x:X) (hex:ex=.ret∨ex=.normal) (hr:f.results=#[]) (hE:∀ g,yAA H g→yAA (Hp x++R) g) :
 KJ W n (yCz (fun _=>[]) (.ex (.top fun e a w=>bodyPostS P f c₀ cs (fun e m w'=>∃ x v,e=.returned v∧m=u'∧St W (Hp x++R) w') e a ({ c₀ with mode:=u' }::cs) w) ex)) E H:=by
 refine ⟨fun a w p s=>?_⟩
 have h1:(results f a.tmps).run P w=.ok (.tuple #[]) w:=by
  simp [Go.results,hr]
 have h2:bodyPostS P f c₀ cs (fun e m w'=>∃ x v,e=.returned v∧m=u'∧St W (Hp x++R) w') .normal { a with defers:=[] } ({ c₀ with mode:=u' }::cs) w:=⟨rfl,u',rfl,_,h1,x,_,rfl,rfl,(s.left).mono hE⟩
 rcases hex with rfl|rfl
 ·exact h2
 ·exact h2
theorem yKA {fn:Func} {tmps:Array Value} {Rr:Ending→World→Prop} {d:Deferred} {ds:List Deferred} {u u':FrameMode} {w:World} {f:FuncId} {args:List Value} {Hpre R:List SP} {Hp:X→List SP} (cd:CtR P W f args u u' Hpre Hp) (hu:u≠.run) {fv:Fn} {cap:Array Value} (htar:d.target=.fn fv cap) (hinv:(invoke d.target d.args).run P w=.ok (.enter f args.toArray) w)
 (s:St W (Hpre++R) w) (h:∀ x w',St W (Hp x++R) w'→LeavesInM Fence.wide 0 P fn tmps Rr ds (settle u') w'):LeavesInM Fence.wide 0 P fn tmps Rr (d::ds) u w:=by
 refine ⟨hu,.inr ⟨fun e=>by simp [Fence.wide] at e,fv,cap,f,args.toArray,htar,hinv,fun _ _=>trivial,?_⟩⟩
 obtain ⟨hF,hc⟩:=cd.go R w s
 refine ⟨hF,fun c cs hm hr=>?_⟩
 obtain ⟨e,m,w',fr,⟨x,v,rfl,rfl,hS⟩,h1,h2,h3,h4⟩:=hc c cs hm hr
 exact ⟨_,_,w',fr,h x w' hS,h1,h2,h3,h4⟩
theorem KJ.liftCallPn {D:List Deferred→List Deferred} {ops:Array Oper} {l:List Oper} {d:Option Tmp} {ty:TypeId} {pos:String} {af:Array Edge} {f:FuncId} {xs:List Operand} {ts:Array TypeId} {vs:List Value} {Hpre:List SP} {r:X→Value} {Hp:X→List SP} (hro:q.ro=none) (hx:Evs E xs vs) [hf:FnIs P f] (hc:Pn P W f vs Hpre r Hp) (hp:Pick Hpre H R)
 (h:∀ c,KJ W n (yCz D (.ex q (.panic (pnc (r c))))) E (Hp c++R)):KJ W n (yCz D (.list P ops q (⟨d,.call { callee:=.value (.func f),args:=xs.toArray,argTypes:=ts },ty,pos,af,none⟩::l))) E H:=by
 refine ⟨fun a w p s=>?_⟩
 show wpListIn (fen q.ro) 0 P ops q.den (⟨d,.call { callee:=.value (.func f),args:=xs.toArray,argTypes:=ts },ty,pos,af,none⟩::l) { a with defers:=D a.defers } w
 refine wpListIn_step fun K hK=>?_
 rw [if_pos (by simp [Region.wanted])]
 refine ⟨fun _ _=>trivial,?_⟩
 have hs:(⟨d,.call { callee:=.value (.func f),args:=xs.toArray,argTypes:=ts },ty,pos,af,none⟩:Oper).semAt (fen q.ro).round ({ a with defers:=D a.defers }:Act).eval=execOp a.eval ⟨d,.call { callee:=.value (.func f),args:=xs.toArray,argTypes:=ts },ty,pos,af,none⟩:=by
  rw [show (fen q.ro).round=none from hro]
  rfl
 rw [hs,yGB (hf:=hf) rfl hx p w]
 refine ⟨fun e=>by simp at e,?_⟩
 have s2:St W (Hpre++(R++dm a.defers)) w:=by
  rw [← zLd]
  exact s.perm (hp.perm.append_right _)
 exact (callsIn_wide (n:=0)).2 ((hc.go _ w s2).mono fun e w' ⟨c,he,hS⟩=>by
  subst he
  exact (h c).go a w' p (by show St W ((Hp c++R)++dm a.defers) w';rw [zLd];exact hS))
theorem KJ.liftPnSeq {D:List Deferred→List Deferred} {ch:List PanicEntry} {y:Code} (h:KJ W n (yCz D (.ex q (.panic ch))) E H):KJ W n (yCz D (.ex (.seq P y q) (.panic ch))) E H:=⟨h.go⟩
theorem KJ.liftPnBlk {D:List Deferred→List Deferred} {ch:List PanicEntry} {id:Nat} (h:KJ W n (yCz D (.ex q (.panic ch))) E H):KJ W n (yCz D (.ex (.blk id q) (.panic ch))) E H:=⟨h.go⟩
theorem KJ.liftDonePn2 {f1 f2:FuncId} [FnIs P f1] [FnIs P f2] {cap1 a1 cap2 a2:Array Value} {v1 v2:List Value} {v:Value} {H1 H1' H2 H2' R1 R2:List SP} (hv1:a1++cap1=v1.toArray) (hv2:a2++cap2=v2.toArray) (c1:CtR P W f1 v1 .returning .returning H1 (fun _:Unit=>H1')) (c2:CtR P W f2 v2 (.panicking (pnc v)) (.panicking [{ v,recovered:=true }]) H2 (fun _:Unit=>H2')) (hp2:Pick H2 H R2) (hp1:Pick H1 (H2'++R2) R1)
 {r:X→Value} {Hp:X→List SP} {fn:Func} {rs:List ResultVar} {vs:List Value} (hr:fn.results=rs.toArray) (hv:Rvs P E (H1'++R1) rs vs) (c:X) (hc:yH2 vs=r c) (hE:∀ g,yAA (H1'++R1) g→yAA (Hp c++R) g) :
 KJ W n (yCz (fun l=>⟨.fn (.func f2) cap2,a2⟩::⟨.fn (.func f1) cap1,a1⟩::l) (.ex (.top (bodyPostM Fence.wide 0 P fn (yPY W r Hp R))) (.panic (pnc v)))) E H:=by
 refine KJ.liftTop fun a w p s=>?_
 have fin:=yD1 (W:=W) (P:=P) (fn:=fn) (tmps:=a.tmps) (H:=H1'++R1) (R:=R) c hc hE (fun w s=>hv.results_run hr p s) a.defers
 have st1:∀ w,St W ((H2'++R2)++dm a.defers) w→LeavesInM Fence.wide 0 P fn a.tmps (yPY W r Hp R) (⟨.fn (.func f1) cap1,a1⟩::a.defers) .returning w:=fun w s=>
  yKA c1 zW rfl (by rw [← hv1];exact yKv cap1 a1 w) ((s.perm (hp1.perm.append_right _)).perm (by rw [zLd])) (fun x w' s'=>fin w' (by rw [zLd];exact s'))
 exact yKA c2 zW rfl (by rw [← hv2];exact yKv cap2 a2 w) ((s.perm (hp2.perm.append_right _)).perm (by rw [zLd])) (fun x w' s'=>st1 w' (by rw [zLd];exact s'))
theorem yQJ {x:Operand} {xt t:TypeId} {v:Value} {d:TypeDesc} (hx:Env.ev E x=some (.iface t v)) (hu:P.underlying t=some d) (hd:∀ m,d≠.interface m):Ev P W n E H (.typeAssert x xt t true) (.tuple #[v,.bool true]):=
 Ev.mk fun o ho a w p _=>by
  have e:(Instr.typeAssert (.iface t v) xt t true).run P w=.ok (.tuple #[v,.bool true]) w:=by
   unfold Instr.typeAssert
   cases d <;> simp_all [run_underlying hu]
  simp [execOp,ho,p.ev hx,e]
end
abbrev brk (F:Nat→Addr) (e:Nat):Value:=.iface 141 (.agg #[yAr F e])
section
variable {W:World} {F:Nat→Addr} {q s d n g:Nat} {D:Dsk}
theorem yYd (e:Nat) (he:e≠0):Pn prog W 83 [yAr F e] [] (fun _:Unit=>brk F e) (fun _=>[]):=by
 obtain ⟨ea,hea⟩:=yCW (E:=F) he
 unfold brk
 rw [hea]
 refine Pn.enter func83 rfl ntmps83 zW (fun R=>?_)
 repeat' (first|refine yPr rfl rfl ?_|refine KJ.pnSeq ?_|refine KJ.pnThn ?_|refine KJ.pnBlk ?_|refine yAB ?_;refine yAa (yAC xV xW) ?_|refine xst ?_|refine xsa ?_;intro _|refine xsb ?_ ?_<;>intro _<;>try omega|refine xsc ?_|fail)
 all_goals exact yBo () rfl (xN)
theorem yVD (hE8:ErrsOn L8 W F) (hN:NibAt W) (h2:n≤65536) (life:Int) (hn:D.n=n) (e:Nat) (he:yA9 D 0=e) (hne:e≠0) :
 Pn prog W 42 [zPp s] [stP s d q n 0 none life false,DiskP d D] (fun _:Unit=>brk F e) (fun _=>[stP s d q n 0 none life false,DiskP d D]):=by
 have cr:CtU prog W 27 [zPp d,.int .i64 0] [DiskP d D] (.tuple #[strV (yBt D 0),.int .i64 (yBC D 0),yAr F e]) [DiskP d D]:=by
  have:=yCE (W:=W) (p:=d) (D:=D) hE8 hN zO 0
  rw [he] at this
  exact this
 have cm:=yYd (W:=W) (F:=F) e hne
 refine Pn.enter func42 rfl ntmps42 zW (fun R=>?_)
 repeat' (first|refine yB5 rfl xE cm xP (fun _=>?_)|refine KJ.pnSeq ?_|refine KJ.pnThn ?_|refine KJ.pnBlk ?_|refine yAb ?_;refine xca cr fun _=>?_|refine xst ?_|refine xsa ?_;intro _|refine xsb ?_ ?_<;>intro _<;>try omega|refine xsc ?_|refine xdr 8 yZz ?_|refine xdr 9 yZA ?_|refine xdr 12 yZB ?_|refine xdr 21 yZC ?_|refine xsd ?_ ?_|exact Rech.nil|fail)
 all_goals exact yBo () rfl (xN)
theorem yMY (g e:Nat) (he:e≠0):CtR prog W 41 [zPp g] (.panicking (pnc (brk F e))) (.panicking [{ v:=brk F e,recovered:=true }]) [yAi g [.nilIface] 26] (fun _:Unit=>[yAi g [yAr F e] 26]):=by
 obtain ⟨ea,hea⟩:=yCW (E:=F) he
 unfold brk
 rw [hea]
 refine CtR.enter func41 rfl ntmps41 zW (fun R c₀ cs hu=>?_)
 refine yWB ?_
 refine yMV ?_
 refine yJ4 (i:=0) (rest:=[]) (v:=.iface 141 (.agg #[.iface 281 (.pointer (some ea))])) (cs':={ c₀ with mode:=.panicking [{ v:=.iface 141 (.agg #[.iface 281 (.pointer (some ea))]),recovered:=true }] }::cs) rfl (by simp [recoverD,hu]) rfl ?_
 refine yWC ?_
 refine yS9 ?_
 refine yJv ?_
 repeat' (first|refine KJ.liftStp (by constructor) ?_|refine KJ.liftCondT rfl ?_|refine KJ.liftCondF rfl ?_|refine KJ.liftOper ?_|refine yAa (yQJ rfl underlying141 (by intro m h;cases h)) ?_|refine yAs ?_;refine yAq rfl (fun g3=>?_)|refine xst ?_|refine xsa ?_;intro _|refine xsb ?_ ?_<;>intro _<;>try omega|refine xsc ?_|fail)
 all_goals exact yPx () (by first|exact Or.inl rfl|exact Or.inr rfl) rfl (xN)
theorem yMZ (ge gs x e:Nat) (he:e≠0):CtR prog W 40 [zPp ge,zPp gs] .returning .returning [yAi ge [yAr F e] 26,yAi gs [zPp x] 38] (fun _:Unit=>[yAi ge [yAr F e] 26,yAi gs [.pointer none] 38]):=by
 have hne:=yIs (F:=F) he
 refine CtR.enter func40 rfl ntmps40 zW (fun R c₀ cs hu=>?_)
 have hc:(c₀::cs)={ c₀ with mode:=.returning }::cs:=by rw [← hu]
 rw [hc]
 refine yJv ?_
 repeat' (first|refine KJ.liftStp (by constructor) ?_|refine KJ.liftCondT rfl ?_|refine KJ.liftCondF rfl ?_|refine KJ.liftOper ?_|refine yAa (yCc rfl hne) ?_|refine xst ?_|refine xsa ?_;intro _|refine xsb ?_ ?_<;>intro _<;>try omega|refine xsc ?_|fail)
 all_goals exact yPx () (by first|exact Or.inl rfl|exact Or.inr rfl) rfl (xN)
theorem yM0 (hE8:ErrsOn L8 W F) (hN:NibAt W) (h1:64≤n) (h2:n≤65536) (hn:D.n=n) (ho:D.off=false) (e:Nat) (he:yA9 D 0=e) (hne:e≠0) :
 CtU prog W 18 [zPp d] [DiskP d D] (.tuple #[.pointer none,yAr F e]) [DiskP d D]:=by
 have csz:CtU prog W 25 [zPp d] [DiskP d D] (.int .i64 (n:Nat)) [DiskP d D]:=by
  have:=yBs (W:=W) (p:=d) (D:=D)
  rw [hn] at this
  exact this
 have cof:CtU prog W 26 [zPp d] [DiskP d D] (.bool false) [DiskP d D]:=by
  have:=yD5 (W:=W) (p:=d) (D:=D)
  rw [ho] at this
  exact this
 have cov:=yFw (W:=W) (d:=d) (D:=D) h1 h2 hn
 have clo:=fun s q=>yVD (W:=W) (F:=F) (s:=s) (d:=d) (q:=q) (D:=D) hE8 hN h2 D.life hn e he hne
 have q1:decide ((n:Int)<64)=false:=zZ zO
 refine Ct.enter func18 rfl ntmps18 zW (fun R=>?_)
 refine KJ.lift0 ?_
 repeat' (first|refine KJ.liftCallPn rfl xE (clo _ _) xP (fun _=>?_)|refine KJ.liftPnSeq ?_|refine KJ.liftPnBlk ?_|refine KJ.liftDeferF rfl (Evs.cons (v:=(zPp _)) rfl Evs.nil) ?_|refine KJ.liftDeferV rfl rfl xE ?_|refine KJ.liftStp (by constructor) ?_|refine KJ.liftCondT rfl ?_|refine KJ.liftCondF rfl ?_|refine KJ.liftOper ?_|(refine yAs ?_;first|refine yAq (d:=3) rfl (fun ge=>?_)|refine yAq (d:=2) rfl (fun gs=>?_))|(refine yAb ?_;first|refine xca cov fun x=>?_;obtain ⟨s,q⟩:=x|refine xca cof fun _=>?_|refine xca csz fun _=>?_)|refine yCQ ?_;refine yAa (yCN rfl rfl) ?_|refine yAa (yAc rfl rfl q1) ?_|refine xst ?_|refine xsa ?_;intro _|refine xsb ?_ ?_<;>intro _<;>try omega|refine xsc ?_|refine xdr 2 yPw ?_|refine KJ.liftDraws (id:=2) yPw zK zK ?_|refine xdr 4 yPw ?_|refine KJ.liftDraws (id:=4) yPw zK zK ?_|refine xdr 9 yWJ ?_|refine KJ.liftDraws (id:=9) yWJ zK zK ?_|refine xsd ?_ ?_|exact Rech.nil|fail)
 all_goals exact KJ.liftDonePn2 (v1:=[zPp ge,zPp gs]) (v2:=[zPp ge]) rfl rfl (yMZ ge gs s e hne) (yMY ge e hne) xP xP rfl (Rvs.cell rfl inferInstance xS rfl (Rvs.cell rfl inferInstance xS rfl Rvs.nil)) () (by rfl) (xN)
end
def fx1:List BOp:=[⟨false,[98],[50]⟩,⟨false,[97],[49]⟩]
def fxR:Rows:=[([97],[49]),([98],[50])]
def fx2:List BOp:=[⟨true,[97],[]⟩,⟨false,[99],[]⟩]
def fxS:Rows:=[([98],[50]),([99],[])]
theorem yTo:yAJ [] fx1=fxR:=zX
theorem yZD:RisR fxR:=by rw [← yTo];exact yHE List.Pairwise.nil _
theorem yOs:(yAh fxR).length=9:=zX
theorem yOt:yA1 fx2=fx2:=zX
theorem yTp:yAJ fxR fx2=fxS:=zX
theorem yLK:(yAh fxS).length=8:=zX
theorem yZE:lk fxS [98]=some [50]:=zX
theorem yZF:(yBN fx2).length=8:=zX
theorem yTq:yJt 64 fxR fx2=0:=zX
abbrev xAK (x:Option Addr × Nat) (l:Rows):SP:=lsP rC 62 2 (.slice x.1 l.length x.2) l
section
variable {W:World} {F:Nat→Addr} {N:List Nd} {a:Option Addr} {r:Rows} {s d q n:Nat} {b:Int}
instance yZG:FnIs prog 9:=⟨zK⟩
instance yYC:FnIs prog 4:=⟨zK⟩
instance xAF:FnIs prog 11:=⟨zK⟩
instance yZH:FnIs prog 19:=⟨zK⟩
theorem yKB (A B:SP) (a b:Option Addr) (c d:Nat) (l:Rows) (hA:Lv W rC 2 A a l) (hB:Lv W rC 2 B b l) (h1:l.length≤4611686018427387904) :
 CtU prog W 9 [.slice a l.length c,.slice b l.length d] [A,B] (.bool true) [A,B]:=by
 have q:((l.length:Nat):Int)=(l.length:Nat):=rfl
 refine Ct.enter func9 rfl ntmps9 zW (fun R=>?_)
 repeat' (first|refine yAa (yAv rfl rfl q) ?_|refine xst ?_|refine xsa ?_;intro _|refine xsb ?_ ?_<;>intro _<;>try omega|refine xsc ?_|refine xdr 6 yTn ?_|refine xsd ?_ ?_|exact Rech.nil|fail)
 refine yAz (fun i:{i:Nat//i≤l.length}=>[(0,.slice a l.length c),(1,.slice b l.length d),(12,.int .i64 (l.length:Nat)),(13,.int .i64 (i.1:Nat))])
  (fun _=>[A,B]++R) (fun i=>l.length-i.1) ⟨0,zLA _⟩ xB (xN) (fun ⟨i,hi⟩=>?_)
 dsimp only
 by_cases hlt:i<l.length
 rotate_left
 ·have ql:decide ((i:Int)<(l.length:Nat))=false:=zZ zO
  repeat' (first|refine yAa (yAc rfl rfl ql) ?_|refine xst ?_|refine xsa ?_;intro _|refine xsb ?_ ?_<;>intro _<;>try omega|refine xsc ?_|refine xdr 6 yTn ?_|refine xsd ?_ ?_|exact Rech.nil|exact xdn ()|fail)
 have ql:decide ((i:Int)<(l.length:Nat))=true:=zY zO
 obtain ⟨x,hx⟩:∃ s,l[i]? = some s:=⟨_,zLb hlt⟩
 refine KJ.lvSome hA xS zO (fun ba oa hab=>?_)
 subst hab
 refine KJ.lvSome hB xS zO (fun bb ob hab=>?_)
 subst hab
 have ho1:oa+Int.toNat (i:Int)*2=oa+i*2:=by rw [zLe]
 have ho2:ob+Int.toNat (i:Int)*2=ob+i*2:=by rw [zLe]
 have hq:(!decide (x=x))=false:=zW
 repeat' (first|(refine yAj ?_;first|refine yAa (yBX yB2 hA rfl rfl xS ho1 hx) ?_|refine yAa (yBX yB2 hB rfl rfl xS ho2 hx) ?_)|refine yAa (yAd (r:=((i+1:Nat):Int)) rfl rfl zO zO) ?_|refine yAa (yU4 rfl rfl (yTm x x underlying62) hq) ?_|refine yAa (yAc rfl rfl ql) ?_|refine xst ?_|refine xsa ?_;intro _|refine xsb ?_ ?_<;>intro _<;>try omega|refine xsc ?_|refine xdr 6 yTn ?_|refine xsd ?_ ?_|exact Rech.nil|fail)
 all_goals refine yAp ⟨i+1,hlt⟩ (by show l.length-(i+1)<l.length-i;omega) xB (xN)
theorem yTr (v:Int) (lg:Option Addr) (life:Int) (dead:Bool):CtU prog W 11 [zPp s] [stP s d q n v lg life dead] (.int .i64 v) [stP s d q n v lg life dead]:=by
 refine Ct.enter func11 rfl ntmps11 zW (fun R=>?_)
 repeat' (first|refine xst ?_|refine xsa ?_;intro _|refine xsb ?_ ?_<;>intro _<;>try omega|refine xsc ?_|exact xdn ()|fail)
theorem yWK (v:Int) (lg:Option Addr) (life:Int) (dead:Bool) (hT:TbOk N a r) (hs:(yAh r).length≤4611686018427387904):CtU prog W 19 [zPp s] [stP s d q n v lg life dead,tbP q a b,arP N] (.int .i64 ((yAh r).length:Nat)) [stP s d q n v lg life dead,tbP q a b,arP N]:=by
 have cs:=yEd (W:=W) (N:=N) (p:=q) (b:=b) hT hs
 refine Ct.enter func19 rfl ntmps19 zW (fun R=>?_)
 repeat' (first|refine yAb ?_;refine xca cs fun _=>?_|refine xst ?_|refine xsa ?_;intro _|refine xsb ?_ ?_<;>intro _<;>try omega|refine xsc ?_|exact xdn ()|fail)
theorem yQK (n:Nat) (h1:64≤n) (h2:n≤65536):yA9 (Dsk.blank n) 0=14:=by
 have hb:=yHG n zO h2
 obtain ⟨t1,t2,t3⟩:=Holds.told hb (a:=0) (by show 0+2≤n;omega) (Holds.blank n 0 zO)
 rw [if_pos rfl] at t1
 exact t1
theorem yQL (hE:ErrsAt W F) (hN:NibAt W) (hg:gB≤W.heap.size):CtU prog W 4 [] [] (.bool true) []:=by
 have hE16:ErrsOn L16 W F:=hE.to16
 have hE8:ErrsOn L8 W F:=hE16.to8
 have hA64:yAu 64=20:=zX
 have hsn:(yAh fxR).length≤234*yAu 64:=by rw [yOs,hA64];omega
 have cn:Ct prog W 17 [.int .i64 64] [] (fun p:Nat=>.tuple #[zPp p,.nilIface]) (fun p=>[DiskP p (Dsk.blank 64)]):=yY3 64 zO zO hg
 have cb:=fun d=>yM0 (W:=W) (F:=F) (d:=d) (D:=Dsk.blank 64) (n:=64) hE8 hN zO zO rfl rfl 14 (yQK 64 zO zO) zO
 have cf:=fun (d gb:Nat)=>yVA (W:=W) (F:=F) (d:=d) hE16 hE8 hN (n:=64) zO zO (yAi gb [.bool false,strV [98],strV [50],.bool false,strV [97],strV [49]] 60) (some ⟨gb,0,none⟩) 2 fx1 (Lv.cells rfl) zX yTo hsn
 have co:=fun d=>yVB (W:=W) (F:=F) (d:=d) hE16 hE8 hN (n:=64) zO zO yZD hsn
 have c14:=yGm hE hg 14 zO
 have c21:=yGm hE hg 21 zO
 have f1l:fx1.length=2:=rfl
 have f2l:fx2.length=2:=rfl
 have hrl:fxR.length=2:=rfl
 rw [f1l] at cf
 refine Ct.enter func4 rfl ntmps4 zW (fun R=>?_)
 repeat' (first|refine yAw (id:=5) ?_;refine yCO ?_|(refine yAb ?_;first|refine xca (cb _) fun _=>?_|refine xca cn fun d=>?_)|refine xst ?_|refine xsa ?_;intro _|refine xsb ?_ ?_<;>intro _<;>try omega|refine xsc ?_|fail)
 refine Hold.mk ?_
 repeat' (first|refine yAw (id:=9) ?_;refine yCO ?_|(refine yAb ?_;first|refine xca (co _) fun y=>?_|refine xca c14 fun _=>?_|refine xca (cf _ _) fun _=>?_)|refine yAF ?_;refine yHM (len:=2) (places:=[(0,3),(3,3)]) (base:=[.bool false,strV [],strV [],.bool false,strV [],strV []]) xV (by rfl) (by rfl) xW zO rfl (fun gb=>?_)|refine yAB ?_;refine yAa (yAC xV xW) ?_|refine yAa (yAl (q:=false) rfl rfl rfl) ?_|refine xst ?_|refine xsa ?_;intro _|refine xsb ?_ ?_<;>intro _<;>try omega|refine xsc ?_|fail)
 refine Hold.mk ?_
 obtain ⟨s,⟨x,hI,hd,hv,hu,hD⟩⟩:=y
 dsimp only
 have cx:=fun (gb:Nat)=>yVw (W:=W) (F:=F) (s:=s) (n:=64) (m:=2) hE16 hE8 hN zO zO zO x hI (yAi gb [.bool true,strV [97],strV [],.bool false,strV [99],strV []] 60) (some ⟨gb,0,none⟩) 2 fx2 (Lv.cells rfl) zX zX (by rw [yOt,yZF];omega) (by rw [yOt,yTp,yLK];omega)
 have hcr:yQF 64 fxR fx2=fxS:=by unfold yQF;rw [if_pos yTq,yOt,yTp]
 rw [yTq,hcr,f2l] at cx
 obtain ⟨xd,q,g,v,used,D,N,a,b⟩:=x
 dsimp only at hd hv
 subst hd hv
 have hT:=hI.tab
 dsimp only at hT
 have cv:=yTr (W:=W) (s:=s) (d:=xd) (q:=q) (n:=64) (2:Nat) (some ⟨g,0,none⟩) D.life false
 have cz:=yWK (W:=W) (s:=s) (d:=xd) (q:=q) (n:=64) (b:=b) (2:Nat) (some ⟨g,0,none⟩) D.life false hT (by rw [yOs];omega)
 rw [yOs] at cz
 have cr:=yPq (W:=W) (s:=s) (d:=xd) (q:=q) (n:=64) (b:=b) (2:Nat) (some ⟨g,0,none⟩) D.life false hT zX
 have ce:=fun (xa:Option Addr) (xc gb:Nat)=>yKB (W:=W) (xAK (xa,xc) fxR) (yAi gb [strV [97],strV [49],strV [98],strV [50]] 62) xa (some ⟨gb,0,none⟩) xc 2 fxR (Lv.own (e:=62) (c:=xc) yB2 rfl) (Lv.cells rfl) zX
 rw [hrl] at cr ce
 repeat' (first|refine yAw (id:=11) ?_;refine yCO ?_|(refine yAb ?_;first|refine xca (ce _ _ _) fun _=>?_|refine xca cr fun x=>?_;obtain ⟨xa,xc⟩:=x|refine xca cz fun _=>?_|refine xca cv fun _=>?_)|refine yAF ?_;refine yHM (len:=2) (places:=[(0,2),(2,2)]) (base:=[strV [],strV [],strV [],strV []]) xV (by rfl) (by rfl) xW zO rfl (fun gb=>?_)|refine yAB ?_;refine yAa (yAC xV xW) ?_|refine yAa (yAl (q:=false) rfl rfl rfl) ?_|refine xst ?_|refine xsa ?_;intro _|refine xsb ?_ ?_<;>intro _<;>try omega|refine xsc ?_|fail)
 refine Hold.mk ?_
 repeat' (first|refine yAw (id:=12) ?_;refine yCO ?_|refine yAb ?_;refine xca (cx _) fun y=>?_|refine yAF ?_;refine yHM (len:=2) (places:=[(0,3),(3,3)]) (base:=[.bool false,strV [],strV [],.bool false,strV [],strV []]) xV (by rfl) (by rfl) xW zO rfl (fun gb=>?_)|refine yAB ?_;refine yAa (yAC xV xW) ?_|refine xst ?_|refine xsa ?_;intro _|refine xsb ?_ ?_<;>intro _<;>try omega|refine xsc ?_|fail)
 refine Hold.mk ?_
 obtain ⟨y,hJ,hgo⟩:=y
 have h0:=hJ.rdy.slot0 zO hJ.v1
 have hyn:=hJ.rdy.nn
 have hyo:y.D.off=false:=hJ.rdy.rest.calm.1
 have hyd:=hgo.d
 obtain ⟨yd,yq,yg,yv,yused,yD,yN,ya,yb⟩:=y
 dsimp only at h0 hyn hyo hyd ⊢
 subst hyd
 have hT2:=hJ.tab
 dsimp only at hT2
 have cg:=yXZ (W:=W) (s:=s) (d:=yd) (q:=yq) (n:=64) (b:=yb) (yv:Nat) (some ⟨yg,0,none⟩) yD.life false hT2 [98]
 rw [yZE] at cg
 have cz2:=yWK (W:=W) (s:=s) (d:=yd) (q:=yq) (n:=64) (b:=yb) (yv:Nat) (some ⟨yg,0,none⟩) yD.life false hT2 (by rw [yLK];omega)
 rw [yLK] at cz2
 have cF:=yJC (W:=W) (F:=F) (d:=yd) (D:=yD) hE16 hE8 hN (n:=64) zO zO hyn hyo h0 noP none 0 0
 refine KJ.noP ?_
 repeat' (first|(refine yAb ?_;first|refine xca c21 fun _=>?_|refine xca cF fun _=>?_|refine xca cz2 fun _=>?_|refine xca cg fun _=>?_)|refine yAa (yMh rfl rfl rfl) ?_|refine yAa (yAf (q:=true) rfl rfl rfl) ?_|refine xst ?_|refine xsa ?_;intro _|refine xsb ?_ ?_<;>intro _<;>try omega|refine xsc ?_|exact xdn ()|fail)
end
section
variable {W:World} {F:Nat→Addr} {n:Nat}
theorem yTs {P:Program} {k:Nat} {E:Env} {H:List SP} {x y:Operand} {kd:IntKind} {i j m:Int} {ts:Array TypeId} (hx:Env.ev E x=some (.int kd i)) (hy:Env.ev E y=some (.int kd j)) (h:min i j=m):Ev P W k E H (.call { callee:=.builtin .min,args:=#[x,y],argTypes:=ts }) (.int kd m):=by subst h;exact yRH hx hy
instance yZ9:FnIs prog 33:=⟨zK⟩
instance yZI:FnIs prog 37:=⟨zK⟩
abbrev xAR:Value:=.agg #[.int .i64 0,.int .i64 0,.int .i64 0,.int .i64 0,.int .i64 0]
theorem yJD (i:Int) (h:i<64):CtU prog W 33 [.int .i64 i] [] (.tuple #[xAR,.int .i64 13]) []:=by
 have q1:decide (i<64)=true:=zY h
 refine Ct.enter func33 rfl ntmps33 zW (fun R=>?_)
 repeat' (first|refine yAs ?_;refine yAq rfl (fun g=>?_)|refine yAB ?_;refine yAa (yAC xV xW) ?_|refine yAa (yAc rfl rfl q1) ?_|refine xst ?_|refine xsa ?_;intro _|refine xsb ?_ ?_<;>intro _<;>try omega|refine xsc ?_|fail)
 all_goals (refine yCy ?_;exact yAR (by first|exact Or.inl rfl|exact Or.inr rfl) rfl (Rvs.agg (T:=46) rfl inferInstance inferInstance xS xC (Rvs.tmp rfl Rvs.nil)) () (by rfl) (xN))
theorem yIA (h1:64≤n) (h2:n≤65536):CtU prog W 33 [.int .i64 (n:Nat)] [] (.tuple #[.agg (yMU n).toArray,.int .i64 0]) []:=by
 have hq:((n:Int)-2) / 3=(yAu n:Nat):=by unfold yAu;omega
 have hA:=yA8 h2
 have e1:(2:Int)+(yAu n:Nat)=(2+yAu n:Nat):=zO
 have e2:(2:Int)*(yAu n:Nat)=(2*yAu n:Nat):=zO
 have e3:(2:Int)+(2*yAu n:Nat)=(yAK n:Nat):=by unfold yAK;omega
 have e4:(n:Int)-2-(2*yAu n:Nat)=(yA2 n:Nat):=by unfold yA2 yAu;omega
 have b3:=yAO h1 0
 have q1:decide ((n:Int)<64)=false:=zZ zO
 have q2:decide (65536<(n:Int))=false:=zZ zO
 refine Ct.enter func33 rfl ntmps33 zW (fun R=>?_)
 repeat' (first|refine yAs ?_;refine yAq rfl (fun g=>?_)|refine yAB ?_;refine yAa (yAC xV xW) ?_|refine yAa (yAd rfl rfl e3 zO) ?_|refine yAa (yAd rfl rfl e1 zO) ?_|refine yAa (yBG rfl rfl e4 zO) ?_|refine yAa (yAG rfl rfl e2 zO) ?_|refine yDK ?_;refine yAa (yD8 rfl rfl zO hq) ?_|refine yAa (yAc rfl rfl q1) ?_|refine yAa (yAe rfl rfl q2) ?_|refine xst ?_|refine xsa ?_;intro _|refine xsb ?_ ?_<;>intro _<;>try omega|refine xsc ?_|fail)
 all_goals (refine yCy ?_;exact yAR (by first|exact Or.inl rfl|exact Or.inr rfl) rfl (Rvs.agg (T:=46) rfl inferInstance inferInstance xS xC (Rvs.tmp rfl Rvs.nil)) () (by rfl) (xN))
theorem yFx (h2:n≤65536):CtU prog W 37 [.int .i64 (n:Nat)] [] (.int .i64 (234*n:Nat)) []:=by
 have e1:max ((n:Nat):Int) 0=((n:Nat):Int):=zO
 have e2:min ((n:Nat):Int) 65536=((n:Nat):Int):=zO
 have e3:(234:Int)*((n:Nat):Int)=((234*n:Nat):Int):=zO
 refine Ct.enter func37 rfl ntmps37 zW (fun R=>?_)
 repeat' (first|refine yAa (yTs rfl rfl e2) ?_|refine yRO ?_;refine yAa (yO8 rfl rfl e1) ?_|refine yAa (yAG rfl rfl e3 zO) ?_|refine xst ?_|refine xsa ?_;intro _|refine xsb ?_ ?_<;>intro _<;>try omega|refine xsc ?_|exact xdn ()|fail)
end
theorem yVE {γ:Type} {w:γ→Nat} {c:Nat} {l:List γ} (h:∀ x ∈ l,w x≤c):yDS w l≤l.length*c:=by
 induction l with
 |nil=>simp [yDS]
 |cons y l ih=>
  rw [yDl,zLj,zLH]
  have h1:=h y (List.mem_cons_self ..)
  have h2:=ih fun x hx=>h x (List.mem_cons_of_mem _ hx)
  omega
structure OpsFit (ops:List BOp):Prop where
 len:ops.length≤1048576
 each:∀ o ∈ ops,o.key.length≤1048576∧o.val.length≤1048576
theorem yZJ (o:BOp):opW o≤o.key.length+o.val.length+21:=by
 have h1:=yBO o.key.length
 have h2:=yBO o.val.length
 unfold opW yDw tx
 split
 ·rw [zLj,zLa];omega
 ·rw [zLj,zLa,zLa,zLa];omega
theorem OpsFit.sum {ops:List BOp} (h:OpsFit ops):yDS opW ops≤2300000000000:=by
 have h1:yDS opW ops≤ops.length*2097173:=yVE fun o ho=>by
  have:=yZJ o
  have:=h.each o ho
  omega
 have h2:=h.len
 omega
theorem OpsFit.enc {ops:List BOp} (h:OpsFit ops):(yBN (yA1 ops)).length≤100000000000000:=by
 have h1:=yX9 (yA1 ops)
 have h2:=yVz ops
 have h3:=h.sum
 have h4:=yBO (yA1 ops).length
 omega
theorem OpsFit.snap {ops:List BOp} (h:OpsFit ops) {r:Rows} (hr:RisR r) (hs:(yAh r).length≤1000000000000):(yAh (yAJ r ops)).length≤4611686018427387904:=by
 have h1:=yFV (yAJ r ops)
 have h2:=yKy hr ops
 have h3:=h.sum
 have h4:=yBO (yAJ r ops).length
 have h5:=yFV r
 omega
theorem OpsFit.nil:OpsFit []:=⟨zLA _,fun _ h=>by cases h⟩
theorem yTt {r:Rows} {n:Nat} (h:(yAh r).length≤234*yAu n) (h2:n≤65536):r.length≤10000000∧(yAh r).length≤10000000:=by
 have h1:=yCB r
 have h3:(yAh r).length=(vu r.length).length+(r.flatMap rowB).length:=by unfold yAh;rw [zLa]
 have h4:yAu n≤32768:=by unfold yAu;omega
 omega
abbrev xAa (x:Option Addr × Nat) (l:List BOp):SP:=lsP opC 60 3 (.slice x.1 l.length x.2) l
theorem yIB {P:Program} {W:World} {n:Nat} {E:Env} {H:List SP} {t u:TypeId} {x y:Operand} {i j r:Int} (hx:Env.ev E x=some (.int .i64 i)) (hy:Env.ev E y=some (.int .i64 j)) (h:Go.RowKit.wrap64 (i-j)=r):Ev P W n E H (.binOp .sub t x y u) (.int .i64 r):=by
 subst h
 have e:IntKind.i64.wrap (i-j)=Go.RowKit.wrap64 (i-j):=by rw [IntKind.wrap_i64];unfold Go.RowKit.wrap64;rfl
 rw [← e]
 exact yV9 hx hy
section
variable {W:World} {F:Nat→Addr} {s d q n:Nat} {r:Rows} {N:List Nd} {a:Option Addr} {b:Int}
instance yYe:FnIs prog 13:=⟨zK⟩
theorem yOu (A:SP) (a:Option Addr) (c:Nat) (l:List BOp) (hL:Lv W opC 3 A a l) (hl:l.length≤2000000) :
 Ct prog W 13 [.slice a l.length c] [A] (fun x:Option Addr × Nat=>.slice x.1 l.length x.2) (fun x=>[A,xAa x l]):=by
 have b1:(([]:List BOp).length+l.length)*40≤140737488355328:=by simp;omega
 have b2:([]:List BOp).length+l.length≤9223372036854775807:=by simp;omega
 refine Ct.enter func13 rfl ntmps13 zW (fun R=>?_)
 refine KJ.lvOpen hL xS (fun b0 o0 hab=>?_)
 repeat' (first|refine yAH ?_;refine yMF (l:=([]:List BOp)) (l2:=l) yBy rfl rfl rfl rfl xS (Src.lv hL hab xS) b1 b2 rfl (fun a1 c1=>?_)|refine yAF ?_;refine yDB rfl (fun g0=>?_)|refine xst ?_|refine xsa ?_;intro _|refine xsb ?_ ?_<;>intro _<;>try omega|refine xsc ?_|fail)
 all_goals (obtain ⟨L2,hL2⟩:∃ L2,L2=([]++l:List BOp):=⟨_,rfl⟩)
 all_goals (simp only [List.nil_append,List.length_nil,zLq] at *)
 all_goals (exact xdn (a1,c1))
end
end Go.Proofs.YtlnbkbfblhofbaaGreatDoor
