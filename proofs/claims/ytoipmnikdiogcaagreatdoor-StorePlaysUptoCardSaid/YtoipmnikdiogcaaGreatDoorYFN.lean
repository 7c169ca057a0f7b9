/-
  StWG, StWH, DeS, StWD, StF0, StL0, StR0, RngT, RgW1, RgW2, RgV.
-/
import Derived.Test.YtoipmnikdiogcaaGreatDoorYFC
set_option maxRecDepth 100000
set_option maxHeartbeats 64000000
namespace Go.Proofs.YtoipmnikdiogcaaGreatDoor
open Go Go.RowKit
open Go.Proofs.Tryz
abbrev xBQ:Pl:=(po [0,1,2,3,4,8] (.ef 5 [8,0] (.op 6 (.op 7 (.ef 9 [] .nil)))))
abbrev xBR:Pl:=(po [0,1,2,3,4,5,6,7,8,9,10,11,12,13,14,15,16,17,18,19] (.ef 20 [] (po [21,22,23,24,25] .nil)))
abbrev xBS:Pl:=(po [0,1,2,3,4,5,6,7,8,9,10,11,12,13,14] (.ef 15 [] (po [16,17,18,19,20] .nil)))
abbrev xBT:Pl:=(po [0,1,2,3,5,8] (.ef 4 [8,5] (.ef 6 [8] (.op 7 (.ef 9 [] .nil)))))
abbrev yRg:Pl:=(.op 0 (.ef 1 [0] (.ef 2 [] .nil)))
abbrev yY4:Pl:=(.op 0 (.op 1 (.ef 2 [0] (.ef 3 [] (.ef 4 [] .nil)))))
abbrev yLX:Pl:=(po [0,1,2,3,4,5,6,7,8] .nil)
abbrev yKR:Pl:=(po [0,1,2,3,4,5] (.ef 6 [] (po [7,8,9,10,11,12,13,14,15,16] (.ef 17 [] (po [18,19,20,21,22,23,24,25] (.ef 26 [] (.op 27 (.op 28 .nil))))))))
section
variable {W:World} {F:Nat→Addr} {d n:Nat} {D:Dsk}
theorem yKS (hE:ErrsOn L16 W F) (ay:ErrsOn L8 W F) (hN:NibAt W) (h1:64≤n) (h2:n≤65536) (hn:D.n=n) (ho:D.off=false) (hs:yBA D 0=0) (A:SP) (oa:Option Addr) (oc m:Nat) :CtU prog W 14 [zPp d,.slice oa m oc] [A,DiskP d D] (yAy F 21) [A,DiskP d D]:=by
 have e21:W.cell? ⟨3,0,none⟩=some (yAy F 21):=hE.at_ 21 zX;have cr:CtU prog W 52 [zPp d,zi 0] [DiskP d D] (.tuple #[strV (yBT D 0),zi (yB6 D 0),.nilIface]) [DiskP d D]:=by have:=yC9 (W:=W) (p:=d) (D:=D) ay hN zO 0;rw [hs] at this;exact this
 have bj:CtU prog W 45 [zPp d] [DiskP d D] (zi (n:Nat)) [DiskP d D]:=by have:=yBM (W:=W) (p:=d) (D:=D);rw [hn] at this;exact this
 have gV:CtU prog W 46 [zPp d] [DiskP d D] (.bool false) [DiskP d D]:=by have:=yDy (W:=W) (p:=d) (D:=D);rw [ho] at this;exact this
 have q1:decide ((n:Int)<64)=false:=zZ zO;refine zE func14 ntmps14 fun R=>?_;repeat' (first|refine xqa ?_|refine xsf ?_ ?_|exact xdn ()|intro _)
end
theorem RdyS.slot0 {n v:Nat} {D:Dsk} (h:RdyS n v D) (h1:64≤n) (hv:1≤v):yBA D 0=0:=by obtain ⟨l,hl⟩:=h.slot;have hn:=h.nn;have ht:=Holds.told h.rest (a:=0) zO hl;rw [if_neg zO] at ht;exact ht.1
section
variable {W:World} {F:Nat→Addr} {r:Rows} {d n:Nat}
theorem yXF (hE:ErrsOn L16 W F) (ay:ErrsOn L8 W F) (hN:NibAt W) (h1:64≤n) (h2:n≤65536) (hr:RisR r) (bH:(yAk r).length≤234*yAA n) :Ct prog W 13 [zPp d] [DiskP d (xAm n r)] (fun y:Nat × {x:StH//StI n 2 r x∧x.d=d∧x.v=2∧x.used=0∧x.D=yFG (xAm n r) n 2 r}=>.tuple #[.pointer (some ⟨y.1,0,none⟩),.nilIface]) (fun y=>stL y.1 n y.2.1):=by
 obtain ⟨g1,g2,g3,g4,g5,g6,g7,g8⟩:=(Ready.blank h1 (show n≤65536 by omega)).fold r h1 zO zO bH;obtain ⟨k1,k2,k3,k4,k5,k6,k7,k8⟩:=g3.ready.fold r h1 zO zO bH;have hc:=yVc (W:=W) (F:=F) (d:=d) (D:=xAm n r) hE ay hN h1 zO hr bH 1 ⟨zO,zO⟩ g3;have e:(yFG (xAm n r) n (1+1) r).life=(xAm n r).life:=k4;refine hc.to (fun x=>(x.1,⟨⟨d,x.2.1.1,x.2.2,2,0,yFG (xAm n r) n (1+1) r,x.2.1.2.1.1,x.2.1.2.1.2.1,x.2.1.2.1.2.2⟩,⟨k3.s,by dsimp only;omega,by dsimp only;omega,by dsimp only;omega,x.2.1.2.2.2,bH⟩,rfl,rfl,rfl,rfl⟩)) (fun _=>rfl) (fun x R g q=>?_);unfold stL;dsimp only;rw [e];rw [e] at q;exact q
end
section
variable {P:Program} {W:World} {n:Nat} {E:Env} {H H' R:List SP} {q:QQ} {X:Type}
structure CtR (P:Program) (W:World) (f:FuncId) (args:List Value) (u u':FrameMode) (Hpre:List SP) {X:Type} (Hp:X→List SP):Prop where
 go:∀ R w,St W (Hpre++R) w→CallsDIn Fence.wide 0 P f args.toArray u w fun e m w'=>∃ x v,e=.returned v∧m=u'∧St W (Hp x++R) w'
theorem CtR.enter {f:FuncId} {args:List Value} {u u':FrameMode} {Hpre:List SP} {Hp:X→List SP} {fn:Func} {c:Code} (hf:P.funcs[f]? = some fn) (hb:fn.body=some c) (hn:fn.ntmps=n) (hk:args.length≤n) (h:∀ (R:List SP) (c₀:Frame) (cs:List Frame),c₀.mode=u→KS W n (c.wpSIn Fence.wide 0 P (bodyPostS P fn c₀ cs fun e m w'=>∃ x v,e=.returned v∧m=u'∧St W (Hp x++R) w')) (c₀::cs) (Env.ofArgs args 0) (Hpre++R)):CtR P W f args u u' Hpre Hp:=by
 refine ⟨fun R w s=>?_⟩;refine callsDIn_of_wpSIn hf hb trivial fun c₀ cs hu=>(h R c₀ cs hu).go _ w ⟨?_,fun t v e=>?_⟩ s rfl
 ·simp [hn];omega
 ·obtain ⟨_,h2⟩:=Env.ofArgs_at args 0 t v e;have hl:=(zLc.1 h2).1;simp only [Nat.sub_zero] at h2 hl;show (args.toArray++_)[t]? = _;rw [Array.getElem?_append_left (by simpa using hl)];simpa using h2
theorem yRh {f:Func} {c₀:Frame} {cs:List Frame} {u':FrameMode} {Hp:X→List SP} {ex:Exit} (x:X) (hex:ex=.ret∨ex=.normal) (hr:f.results=#[]) (hE:∀ g,yAH H g→yAH (Hp x++R) g) :KJ W n (yC3 (fun _=>[]) (.ex (.top fun e a w=>bodyPostS P f c₀ cs (fun e m w'=>∃ x v,e=.returned v∧m=u'∧St W (Hp x++R) w') e a ({ c₀ with mode:=u' }::cs) w) ex)) E H:=by
 refine ⟨fun a w p s=>?_⟩;have h1:(results f a.tmps).run P w=.ok (.tuple #[]) w:=by simp [Go.results,hr]
 have h2:bodyPostS P f c₀ cs (fun e m w'=>∃ x v,e=.returned v∧m=u'∧St W (Hp x++R) w') .normal { a with defers:=[] } ({ c₀ with mode:=u' }::cs) w:=⟨rfl,u',rfl,_,h1,x,_,rfl,rfl,(s.left).mono hE⟩;rcases hex with rfl|rfl
 ·exact h2
 ·exact h2
theorem yLY {fn:Func} {tmps:Array Value} {Rr:Ending→World→Prop} {d:Deferred} {ds:List Deferred} {u u':FrameMode} {w:World} {f:FuncId} {args:List Value} {Hpre R:List SP} {Hp:X→List SP} (cd:CtR P W f args u u' Hpre Hp) (hu:u≠.run) {fv:Fn} {cap:Array Value} (kT:d.target=.fn fv cap) (kN:(invoke d.target d.args).run P w=.ok (.enter f args.toArray) w) (s:St W (Hpre++R) w) (h:∀ x w',St W (Hp x++R) w'→LeavesInM Fence.wide 0 P fn tmps Rr ds (settle u') w'):LeavesInM Fence.wide 0 P fn tmps Rr (d::ds) u w:=by
 refine ⟨hu,.inr ⟨fun e=>by simp [Fence.wide] at e,fv,cap,f,args.toArray,kT,kN,fun _ _=>trivial,?_⟩⟩;obtain ⟨hF,hc⟩:=cd.go R w s;refine ⟨hF,fun c cs hm hr=>?_⟩;obtain ⟨e,m,w',fr,⟨x,v,rfl,rfl,hS⟩,h1,h2,h3,h4⟩:=hc c cs hm hr;exact ⟨_,_,w',fr,h x w' hS,h1,h2,h3,h4⟩
theorem KJ.liftCallPn {D:List Deferred→List Deferred} {ops:Array Oper} {l:List Oper} {d:Option Tmp} {ty:TypeId} {pos:String} {af:Array Edge} {f:FuncId} {xs:List Operand} {ts:Array TypeId} {vs:List Value} {Hpre:List SP} {r:X→Value} {Hp:X→List SP} (cI:q.ro=none) (hx:Evs E xs vs) [hf:FnIs P f] (hc:Pn P W f vs Hpre r Hp) (hp:Pick Hpre H R) (h:∀ c,KJ W n (yC3 D (.ex q (.panic (pnc (r c))))) E (Hp c++R)):KJ W n (yC3 D (.list P ops q (⟨d,.call { callee:=.value (.func f),args:=xs.toArray,argTypes:=ts },ty,pos,af,none⟩::l))) E H:=by
 refine ⟨fun a w p s=>?_⟩;show wpListIn (fen q.ro) 0 P ops q.den (⟨d,.call { callee:=.value (.func f),args:=xs.toArray,argTypes:=ts },ty,pos,af,none⟩::l) { a with defers:=D a.defers } w;refine wpListIn_step fun K hK=>?_;rw [if_pos (by simp [Region.wanted])];refine ⟨fun _ _=>trivial,?_⟩;have hs:(⟨d,.call { callee:=.value (.func f),args:=xs.toArray,argTypes:=ts },ty,pos,af,none⟩:Oper).semAt (fen q.ro).round ({ a with defers:=D a.defers }:Act).eval=execOp a.eval ⟨d,.call { callee:=.value (.func f),args:=xs.toArray,argTypes:=ts },ty,pos,af,none⟩:=by rw [show (fen q.ro).round=none from cI];rfl
 rw [hs,yHz (hf:=hf) rfl hx p w];refine ⟨fun e=>by simp at e,?_⟩;have s2:St W (Hpre++(R++dm a.defers)) w:=by rw [← zLd];exact s.perm (hp.perm.append_right _)
 exact (callsIn_wide (n:=0)).2 ((hc.go _ w s2).mono fun e w' ⟨c,he,hS⟩=>by subst he;exact (h c).go a w' p (by show St W ((Hp c++R)++dm a.defers) w';rw [zLd];exact hS))
theorem KJ.liftPnSeq {D:List Deferred→List Deferred} {ch:List PanicEntry} {y:Code} (h:KJ W n (yC3 D (.ex q (.panic ch))) E H):KJ W n (yC3 D (.ex (.seq P y q) (.panic ch))) E H:=⟨h.go⟩
theorem KJ.liftPnBlk {D:List Deferred→List Deferred} {ch:List PanicEntry} {id:Nat} (h:KJ W n (yC3 D (.ex q (.panic ch))) E H):KJ W n (yC3 D (.ex (.blk id q) (.panic ch))) E H:=⟨h.go⟩
theorem KJ.liftDonePn2 {f1 f2:FuncId} [FnIs P f1] [FnIs P f2] {bG a1 cC a2:Array Value} {v1 v2:List Value} {v:Value} {H1 H1' H2 H2' R1 R2:List SP} (eA:a1++bG=v1.toArray) (fA:a2++cC=v2.toArray) (c1:CtR P W f1 v1 .returning .returning H1 (fun _:Unit=>H1')) (c2:CtR P W f2 v2 (.panicking (pnc v)) (.panicking [{ v,recovered:=true }]) H2 (fun _:Unit=>H2')) (iO:Pick H2 H R2) (jm:Pick H1 (H2'++R2) R1) {r:X→Value} {Hp:X→List SP} {fn:Func} {rs:List ResultVar} {vs:List Value} (hr:fn.results=rs.toArray) (hv:Rvs P E (H1'++R1) rs vs) (c:X) (hc:yI5 vs=r c) (hE:∀ g,yAH (H1'++R1) g→yAH (Hp c++R) g) :KJ W n (yC3 (fun l=>⟨.fn (.func f2) cC,a2⟩::⟨.fn (.func f1) bG,a1⟩::l) (.ex (.top (bodyPostM Fence.wide 0 P fn (yRM W r Hp R))) (.panic (pnc v)))) E H:=by
 refine KJ.liftTop fun a w p s=>?_;have cX:=yEB (W:=W) (P:=P) (fn:=fn) (tmps:=a.tmps) (H:=H1'++R1) (R:=R) c hc hE (fun w s=>hv.results_run hr p s) a.defers;have st1:∀ w,St W ((H2'++R2)++dm a.defers) w→LeavesInM Fence.wide 0 P fn a.tmps (yRM W r Hp R) (⟨.fn (.func f1) bG,a1⟩::a.defers) .returning w:=fun w s=>
  yLY c1 zW rfl (by rw [← eA];exact yLT bG a1 w) ((s.perm (jm.perm.append_right _)).perm (by rw [zLd])) (fun x w' s'=>cX w' (by rw [zLd];exact s'))
 exact yLY c2 zW rfl (by rw [← fA];exact yLT cC a2 w) ((s.perm (iO.perm.append_right _)).perm (by rw [zLd])) (fun x w' s'=>st1 w' (by rw [zLd];exact s'))
theorem ySA {x:Operand} {xt t:TypeId} {v:Value} {d:TypeDesc} (hx:Env.ev E x=some (.iface t v)) (hu:P.underlying t=some d) (hd:∀ m,d≠.interface m):Ev P W n E H (.typeAssert x xt t true) (.tuple #[v,.bool true]):=
 Ev.mk fun o ho a w p _=>by
  have e:(Instr.typeAssert (.iface t v) xt t true).run P w=.ok (.tuple #[v,.bool true]) w:=by unfold Instr.typeAssert;cases d <;> simp_all [run_underlying hu]
  simp [execOp,ho,p.ev hx,e]
end
abbrev brk (F:Nat→Addr) (e:Nat):Value:=.iface 141 (.agg #[yAy F e])
section
variable {W:World} {F:Nat→Addr} {q s d n g:Nat} {D:Dsk}
theorem xAo (e:Nat) (he:e≠0):Pn prog W 89 [yAy F e] [] (fun _:Unit=>brk F e) (fun _=>[]):=by
 obtain ⟨ea,bT⟩:=yDf (E:=F) he;unfold brk;rw [bT];refine Pn.enter func89 rfl ntmps89 zW (fun R=>?_);repeat' (first|refine yQ7 rfl rfl ?_|refine KJ.pnSeq ?_|refine KJ.pnThn ?_|refine KJ.pnBlk ?_|refine xst ?_|refine xsf ?_ ?_|intro _)
 all_goals exact yBR () rfl (xN)
theorem yXG (ay:ErrsOn L8 W F) (hN:NibAt W) (h2:n≤65536) (life:Int) (hn:D.n=n) (e:Nat) (he:yBA D 0=e) (ao:e≠0) :Pn prog W 50 [zPp s] [stP s d q n 0 none life false,DiskP d D] (fun _:Unit=>brk F e) (fun _=>[stP s d q n 0 none life false,DiskP d D]):=by
 have cr:CtU prog W 52 [zPp d,zi 0] [DiskP d D] (.tuple #[strV (yBT D 0),zi (yB6 D 0),yAy F e]) [DiskP d D]:=by have:=yC9 (W:=W) (p:=d) (D:=D) ay hN zO 0;rw [he] at this;exact this
 have cm:=xAo (W:=W) (F:=F) e ao;refine Pn.enter func50 rfl ntmps50 zW (fun R=>?_);repeat' (first|refine yCy rfl xE cm xP (fun _=>?_)|refine KJ.pnSeq ?_|refine KJ.pnThn ?_|refine KJ.pnBlk ?_|refine xst ?_|refine xsf ?_ ?_|refine xdt [(8,xBQ),(9,xBR),(12,xBS),(21,xBT)] ?_|apply zN|intro _)
 all_goals exact yBR () rfl (xN)
theorem yOq (g e:Nat) (he:e≠0):CtR prog W 48 [zPp g] (.panicking (pnc (brk F e))) (.panicking [{ v:=brk F e,recovered:=true }]) [yAj g [.nilIface] 27] (fun _:Unit=>[yAj g [yAy F e] 27]):=by
 obtain ⟨ea,bT⟩:=yDf (E:=F) he;unfold brk;rw [bT];refine CtR.enter func48 rfl ntmps48 zW (fun R c₀ cs hu=>?_);refine yYS ?_;refine yOk ?_;refine yLB (i:=0) (rest:=[]) (v:=.iface 141 (.agg #[.iface 303 (.pointer (some ea))])) (cs':={ c₀ with mode:=.panicking [{ v:=.iface 141 (.agg #[.iface 303 (.pointer (some ea))]),recovered:=true }] }::cs) rfl (by simp [recoverD,hu]) rfl ?_;refine yYT ?_;refine yU7 ?_;refine yKI ?_;repeat' (first|refine KJ.liftStp (by constructor) ?_|refine KJ.liftCondT rfl ?_|refine KJ.liftCondF rfl ?_|refine KJ.liftOper ?_|refine yAa (ySA rfl underlying141 (by intro m h;cases h)) ?_|refine zal fun g3=>?_|refine xst ?_|refine xsf ?_ ?_|intro _)
 all_goals exact yRh () zor rfl (xN)
theorem yOr (ge gs x e:Nat) (he:e≠0):CtR prog W 47 [zPp ge,zPp gs] .returning .returning [yAj ge [yAy F e] 27,yAj gs [zPp x] 34] (fun _:Unit=>[yAj ge [yAy F e] 27,yAj gs [.pointer none] 34]):=by
 have ao:=yH7 (F:=F) he;refine CtR.enter func47 rfl ntmps47 zW (fun R c₀ cs hu=>?_);have hc:(c₀::cs)={ c₀ with mode:=.returning }::cs:=by rw [← hu]
 rw [hc];refine yKI ?_;repeat' (first|refine KJ.liftStp (by constructor) ?_|refine KJ.liftCondT rfl ?_|refine KJ.liftCondF rfl ?_|refine KJ.liftOper ?_|refine xqa ?_|refine xsf ?_ ?_|intro _)
 all_goals exact yRh () zor rfl (xN)
theorem yOs (ay:ErrsOn L8 W F) (hN:NibAt W) (h1:64≤n) (h2:n≤65536) (hn:D.n=n) (ho:D.off=false) (e:Nat) (he:yBA D 0=e) (ao:e≠0) :CtU prog W 13 [zPp d] [DiskP d D] (.tuple #[.pointer none,yAy F e]) [DiskP d D]:=by
 have bj:CtU prog W 45 [zPp d] [DiskP d D] (zi (n:Nat)) [DiskP d D]:=by have:=yBM (W:=W) (p:=d) (D:=D);rw [hn] at this;exact this
 have gV:CtU prog W 46 [zPp d] [DiskP d D] (.bool false) [DiskP d D]:=by have:=yDy (W:=W) (p:=d) (D:=D);rw [ho] at this;exact this
 have cov:=yGm (W:=W) (d:=d) (D:=D) h1 h2 hn;have ir:=fun s q=>yXG (W:=W) (F:=F) (s:=s) (d:=d) (q:=q) (D:=D) ay hN h2 D.life hn e he ao;have q1:decide ((n:Int)<64)=false:=zZ zO;refine zE func13 ntmps13 fun R=>?_;refine KJ.lift0 ?_;repeat' (first|refine KJ.liftCallPn rfl xE (ir _ _) xP (fun _=>?_)|refine KJ.liftPnSeq ?_|refine KJ.liftPnBlk ?_|refine KJ.liftDeferF rfl (Evs.cons (v:=(zPp _)) rfl Evs.nil) ?_|refine KJ.liftDeferV rfl rfl xE ?_|refine KJ.liftStp (by constructor) ?_|refine KJ.liftCondT rfl ?_|refine KJ.liftCondF rfl ?_|refine KJ.liftOper ?_|(refine yAw ?_;first|refine yAv (d:=3) rfl (fun ge=>?_)|refine yAv (d:=2) rfl (fun gs=>?_))|refine xca cov fun x=>?_;obtain ⟨s,q⟩:=x|refine yCL ?_;refine yAa (yCW rfl rfl) ?_|refine xqa ?_|refine xsf ?_ ?_|refine xdt [(2,yRg),(4,yRg),(9,yY4)] ?_|refine KJ.liftDraws (id:=2) yRg zK zK ?_|refine KJ.liftDraws (id:=4) yRg zK zK ?_|refine KJ.liftDraws (id:=9) yY4 zK zK ?_|apply zN|intro _)
 all_goals exact KJ.liftDonePn2 (v1:=[zPp ge,zPp gs]) (v2:=[zPp ge]) rfl rfl (yOr ge gs s e ao) (yOq ge e ao) xP xP rfl (Rvs.cell rfl inferInstance xS rfl (Rvs.cell rfl inferInstance xS rfl Rvs.nil)) () (by rfl) (xN)
end
def fx1:List BOp:=[⟨false,[98],[50]⟩,⟨false,[97],[49]⟩]
def fxR:Rows:=[([97],[49]),([98],[50])]
def fx2:List BOp:=[⟨true,[97],[]⟩,⟨false,[99],[]⟩]
def fxS:Rows:=[([98],[50]),([99],[])]
theorem yVf:yAP [] fx1=fxR:=zX
theorem xBU:RisR fxR:=by rw [← yVf];exact yDj List.Pairwise.nil _
theorem yP2:(yAk fxR).length=9:=zX
theorem yP3:yAR fx2=fx2:=zX
theorem yVg:yAP fxR fx2=fxS:=zX
theorem yNc:(yAk fxS).length=8:=zX
theorem xBV:lk fxS [98]=some [50]:=zX
theorem xBW:(yBx fx2).length=8:=zX
theorem yVh:yE6 64 fxR fx2=0:=zX
abbrev xDk (x:Option Addr × Nat) (l:Rows):SP:=lsP rC 64 2 (.slice x.1 l.length x.2) l
section
variable {W:World} {F:Nat→Addr} {N:List Nd} {a:Option Addr} {r:Rows} {s d q n:Nat} {b:Int}
instance xBX:FnIs prog 18:=⟨zK⟩
instance xBY:FnIs prog 25:=⟨zK⟩
instance xA3:FnIs prog 4:=⟨zK⟩
instance xDb:FnIs prog 16:=⟨zK⟩
instance xBZ:FnIs prog 17:=⟨zK⟩
theorem yLZ (A B:SP) (a b:Option Addr) (c d:Nat) (l:Rows) (hA:Lv W rC 2 A a l) (hB:Lv W rC 2 B b l) (h1:l.length≤4611686018427387904) :CtU prog W 18 [.slice a l.length c,.slice b l.length d] [A,B] (.bool true) [A,B]:=by
 have q:((l.length:Nat):Int)=(l.length:Nat):=rfl;refine zE func18 ntmps18 fun R=>?_;repeat' (first|refine xqa ?_|refine xsf ?_ ?_|refine xdr 6 yLX ?_|apply zN|intro _)
 refine yAC (fun i:{i:Nat//i≤l.length}=>[(0,.slice a l.length c),(1,.slice b l.length d),(12,zi (l.length:Nat)),(13,zi (i.1:Nat))])
  (fun _=>[A,B]++R) (fun i=>l.length-i.1) ⟨0,zLA _⟩ xB (xN) (fun ⟨i,hi⟩=>?_)
 dsimp only;by_cases hlt:i<l.length;rotate_left
 ·have ql:decide ((i:Int)<(l.length:Nat))=false:=zZ zO;repeat' (first|refine xqa ?_|refine xsf ?_ ?_|refine xdr 6 yLX ?_|exact xdn ()|apply zN|intro _)
 have ql:decide ((i:Int)<(l.length:Nat))=true:=zY zO;obtain ⟨x,hx⟩:∃ s,l[i]? = some s:=⟨_,zLb hlt⟩;refine KJ.lvSome hA xS zO (fun ba oa aJ=>?_);subst aJ;refine KJ.lvSome hB xS zO (fun bb ob aJ=>?_);subst aJ;have bD:oa+Int.toNat (i:Int)*2=oa+i*2:=by rw [zLe]
 have dK:ob+Int.toNat (i:Int)*2=ob+i*2:=by rw [zLe]
 have hq:(!decide (x=x))=false:=zW;repeat' (first|(refine yAi ?_;first|refine yAa (yBa yBp hA rfl rfl xS bD hx) ?_|refine yAa (yBa yBp hB rfl rfl xS dK hx) ?_)|refine zad (i+1) ?_|refine yAo ?_;refine yAa (yQU rfl rfl (yVe x x underlying64) hq) ?_|refine xqa ?_|refine xsf ?_ ?_|refine xdr 6 yLX ?_|apply zN|intro _)
 all_goals refine yAs ⟨i+1,hlt⟩ (by show l.length-(i+1)<l.length-i;omega) xB (xN)
theorem yKT (A B:SP) (a b:Option Addr) (c d:Nat) (l:List BOp) (hA:Lv W opC 3 A a l) (hB:Lv W opC 3 B b l) (h1:l.length≤4611686018427387904) :CtU prog W 25 [.slice a l.length c,.slice b l.length d] [A,B] (.bool true) [A,B]:=by
 have q:((l.length:Nat):Int)=(l.length:Nat):=rfl;refine zE func25 ntmps25 fun R=>?_;repeat' (first|refine xqa ?_|refine xsf ?_ ?_|refine xdr 6 yLX ?_|apply zN|intro _)
 refine yAC (fun i:{i:Nat//i≤l.length}=>[(0,.slice a l.length c),(1,.slice b l.length d),(12,zi (l.length:Nat)),(13,zi (i.1:Nat))])
  (fun _=>[A,B]++R) (fun i=>l.length-i.1) ⟨0,zLA _⟩ xB (xN) (fun ⟨i,hi⟩=>?_)
 dsimp only;by_cases hlt:i<l.length;rotate_left
 ·have ql:decide ((i:Int)<(l.length:Nat))=false:=zZ zO;repeat' (first|refine xqa ?_|refine xsf ?_ ?_|refine xdr 6 yLX ?_|exact xdn ()|apply zN|intro _)
 have ql:decide ((i:Int)<(l.length:Nat))=true:=zY zO;obtain ⟨x,hx⟩:∃ s,l[i]? = some s:=⟨_,zLb hlt⟩;refine KJ.lvSome hA xS zO (fun ba oa aJ=>?_);subst aJ;refine KJ.lvSome hB xS zO (fun bb ob aJ=>?_);subst aJ;have bD:oa+Int.toNat (i:Int)*3=oa+i*3:=by rw [zLe]
 have dK:ob+Int.toNat (i:Int)*3=ob+i*3:=by rw [zLe]
 have hq:(!decide (x=x))=false:=zW;repeat' (first|(refine yAi ?_;first|refine yAa (yBa yAY hA rfl rfl xS bD hx) ?_|refine yAa (yBa yAY hB rfl rfl xS dK hx) ?_)|refine zad (i+1) ?_|refine yAo ?_;refine yAa (yQU rfl rfl (yXE x x underlying58) hq) ?_|refine xqa ?_|refine xsf ?_ ?_|refine xdr 6 yLX ?_|apply zN|intro _)
 all_goals refine yAs ⟨i+1,hlt⟩ (by show l.length-(i+1)<l.length-i;omega) xB (xN)
theorem yVi (v:Int) (lg:Option Addr) (life:Int) (dead:Bool):CtU prog W 16 [zPp s] [stP s d q n v lg life dead] (zi v) [stP s d q n v lg life dead]:=by refine zE func16 ntmps16 fun R=>?_;repeat' (first|refine xst ?_|refine xsf ?_ ?_|exact xdn ()|intro _)
theorem yVj (v:Int) (lg:Option Addr) (life:Int) (dead:Bool) (hT:TbOk N a r) (hs:(yAk r).length≤4611686018427387904):CtU prog W 17 [zPp s] [stP s d q n v lg life dead,tbP q a b,arP N] (zi ((yAk r).length:Nat)) [stP s d q n v lg life dead,tbP q a b,arP N]:=by have cs:=yEM (W:=W) (N:=N) (p:=q) (b:=b) hT hs;refine zE func17 ntmps17 fun R=>?_;repeat' (first|refine xst ?_|refine xsf ?_ ?_|exact xdn ()|intro _)
theorem ySB (n:Nat) (h1:64≤n) (h2:n≤65536):yBA (Dsk.blank n) 0=14:=by have hb:=yIF n zO h2;obtain ⟨t1,t2,t3⟩:=Holds.told hb (a:=0) (by show 0+2≤n;omega) (Holds.blank n 0 zO);rw [if_pos rfl] at t1;exact t1
theorem ySC (hE:ErrsAt W F) (hN:NibAt W) (hg:gB≤W.heap.size):CtU prog W 4 [] [] (.bool true) []:=by
 have aq:ErrsOn L16 W F:=hE.to16;have ay:ErrsOn L8 W F:=aq.to8;have hA64:yAA 64=20:=zX;have bH:(yAk fxR).length≤234*yAA 64:=by rw [yP2,hA64];omega
 have cn:Ct prog W 5 [zi 64] [] (fun p:Nat=>.tuple #[zPp p,.nilIface]) (fun p=>[DiskP p (Dsk.blank 64)]):=yYA 64 zO zO hg;have cb:=fun d=>yOs (W:=W) (F:=F) (d:=d) (D:=Dsk.blank 64) (n:=64) ay hN zO zO rfl rfl 14 (ySB 64 zO zO) zO;have cf:=fun (d gb:Nat)=>yXD (W:=W) (F:=F) (d:=d) aq ay hN (n:=64) zO zO (yAj gb [.bool false,strV [98],strV [50],.bool false,strV [97],strV [49]] 58) (zq gb) 2 fx1 (Lv.cells rfl) zX yVf bH;have co:=fun d=>yXF (W:=W) (F:=F) (d:=d) aq ay hN (n:=64) zO zO xBU bH;have c14:=yF7 hE hg 14 zO;have c21:=yF7 hE hg 21 zO;have f1l:fx1.length=2:=rfl;have f2l:fx2.length=2:=rfl;have du:fxR.length=2:=rfl;rw [f1l] at cf;refine zE func4 ntmps4 fun R=>?_;repeat' (first|refine yAE (id:=5) ?_;refine yDw ?_|refine xca (cb _) fun _=>?_|refine xca cn fun d=>?_|refine xst ?_|refine xsf ?_ ?_|intro _)
 refine Hold.mk ?_;repeat' (first|refine yAE (id:=9) ?_;refine yDw ?_|refine xca (co _) fun y=>?_|refine xca (cf _ _) fun _=>?_|refine yAD ?_;refine yIV (len:=2) (places:=[(0,3),(3,3)]) (base:=[.bool false,strV [],strV [],.bool false,strV [],strV []]) xV (by rfl) (by rfl) xW zO rfl (fun gb=>?_)|refine znf ?_|refine xst ?_|refine xsf ?_ ?_|intro _)
 refine Hold.mk ?_;obtain ⟨s,⟨x,hI,hd,hv,hu,hD⟩⟩:=y;dsimp only;have cx:=fun (gb:Nat)=>yXz (W:=W) (F:=F) (s:=s) (n:=64) (m:=2) aq ay hN zO zO zO x hI (yAj gb [.bool true,strV [97],strV [],.bool false,strV [99],strV []] 58) (zq gb) 2 fx2 (Lv.cells rfl) zX zX (by rw [yP3,xBW];omega) (by rw [yP3,yVg,yNc];omega);have hcr:ySx 64 fxR fx2=fxS:=by unfold ySx;rw [if_pos yVh,yP3,yVg]
 rw [yVh,hcr,f2l] at cx;obtain ⟨xd,q,g,v,used,D,N,a,b⟩:=x;dsimp only at hd hv;subst hd hv;have hT:=hI.tab;dsimp only at hT;have cv:=yVi (W:=W) (s:=s) (d:=xd) (q:=q) (n:=64) (2:Nat) (zq g) D.life false;have cz:=yVj (W:=W) (s:=s) (d:=xd) (q:=q) (n:=64) (b:=b) (2:Nat) (zq g) D.life false hT (by rw [yP2];omega);rw [yP2] at cz;have cr:=yQ6 (W:=W) (s:=s) (d:=xd) (q:=q) (n:=64) (b:=b) (2:Nat) (zq g) D.life false hT zX;have ce:=fun (xa:Option Addr) (xc gb:Nat)=>yLZ (W:=W) (xDk (xa,xc) fxR) (yAj gb [strV [97],strV [49],strV [98],strV [50]] 64) xa (zq gb) xc 2 fxR (Lv.own (e:=64) (c:=xc) yBp rfl) (Lv.cells rfl) zX;rw [du] at cr ce;repeat' (first|refine yAE (id:=11) ?_;refine yDw ?_|refine xca (ce _ _ _) fun _=>?_|refine xca cr fun x=>?_;obtain ⟨xa,xc⟩:=x|refine yAD ?_;refine yIV (len:=2) (places:=[(0,2),(2,2)]) (base:=[strV [],strV [],strV [],strV []]) xV (by rfl) (by rfl) xW zO rfl (fun gb=>?_)|refine znf ?_|refine xst ?_|refine xsf ?_ ?_|intro _)
 refine Hold.mk ?_;repeat' (first|refine yAE (id:=12) ?_;refine yDw ?_|refine xca (cx _) fun y=>?_|refine yAD ?_;refine yIV (len:=2) (places:=[(0,3),(3,3)]) (base:=[.bool false,strV [],strV [],.bool false,strV [],strV []]) xV (by rfl) (by rfl) xW zO rfl (fun gb=>?_)|refine xst ?_|refine xsf ?_ ?_|intro _)
 refine Hold.mk ?_;obtain ⟨y,hJ,hgo⟩:=y;have h0:=hJ.rdy.slot0 zO hJ.v1;have hyn:=hJ.rdy.nn;have hyo:y.D.off=false:=hJ.rdy.rest.calm.1;have hyd:=hgo.d;obtain ⟨yd,yq,yg,yv,yused,yD,yN,ya,yb⟩:=y;dsimp only at h0 hyn hyo hyd ⊢;subst hyd;have be:=hJ.tab;dsimp only at be;have cg:=yU8 (W:=W) (s:=s) (d:=yd) (q:=yq) (n:=64) (b:=yb) (yv:Nat) (zq yg) yD.life false be [98];rw [xBV] at cg;have cz2:=yVj (W:=W) (s:=s) (d:=yd) (q:=yq) (n:=64) (b:=yb) (yv:Nat) (zq yg) yD.life false be (by rw [yNc];omega);rw [yNc] at cz2;have cF:=yKS (W:=W) (F:=F) (d:=yd) (D:=yD) aq ay hN (n:=64) zO zO hyn hyo h0 noP none 0 0;refine KJ.noP ?_;repeat' (first|(refine yAt ?_;first|refine yAa (yHG rfl rfl rfl) ?_|refine yAa (yAe (q:=true) rfl rfl rfl) ?_)|refine xst ?_|refine xsf ?_ ?_|exact xdn ()|intro _)
end
theorem yXH {γ:Type} {w:γ→Nat} {c:Nat} {l:List γ} (h:∀ x ∈ l,w x≤c):yFi w l≤l.length*c:=by
 induction l with
 |nil=>simp [yFi]
 |cons y l ih=>
  rw [yEw,zLj,zLH];have h1:=h y (List.mem_cons_self ..);have h2:=ih fun x hx=>h x (List.mem_cons_of_mem _ hx);omega
structure OpsFit (ops:List BOp):Prop where
 len:ops.length≤1048576
 each:∀ o ∈ ops,o.key.length≤1048576∧o.val.length≤1048576
theorem xB0 (o:BOp):opW o≤o.key.length+o.val.length+21:=by
 have h1:=yCe o.key.length;have h2:=yCe o.val.length;unfold opW yD7 tx;split
 ·rw [zLj,zLa];omega
 ·rw [zLj,zLa,zLa,zLa];omega
theorem OpsFit.sum {ops:List BOp} (h:OpsFit ops):yFi opW ops≤2300000000000:=by
 have h1:yFi opW ops≤ops.length*2097173:=yXH fun o ho=>by have:=xB0 o;have:=h.each o ho;omega
 have h2:=h.len;omega
theorem OpsFit.enc {ops:List BOp} (h:OpsFit ops):(yBx (yAR ops)).length≤100000000000000:=by have h1:=xAh (yAR ops);have h2:=yXB ops;have h3:=h.sum;have h4:=yCe (yAR ops).length;omega
theorem OpsFit.snap {ops:List BOp} (h:OpsFit ops) {r:Rows} (hr:RisR r) (hs:(yAk r).length≤1000000000000):(yAk (yAP r ops)).length≤4611686018427387904:=by have h1:=yIe (yAP r ops);have h2:=yLV hr ops;have h3:=h.sum;have h4:=yCe (yAP r ops).length;have h5:=yIe r;omega
theorem OpsFit.nil:OpsFit []:=⟨zLA _,fun _ h=>by cases h⟩
theorem yIh {r:Rows} {n:Nat} (h:(yAk r).length≤234*yAA n) (h2:n≤65536):r.length≤10000000∧(yAk r).length≤10000000:=by
 have h1:=yC6 r;have h3:(yAk r).length=(vu r.length).length+(r.flatMap rowB).length:=by unfold yAk;rw [zLa]
 have h4:yAA n≤32768:=by unfold yAA;omega
 omega
theorem yJE (lo:zB):∀ (t:Tr),RisR t.rows→t.frm lo=t.rows.filter fun p=>!Op.bytesLess p.1 lo
 |.nil,_=>rfl
 |.node l k v r h s,hr=>by
  have hr:RisR (l.rows++(k,v)::r.rows):=hr;obtain ⟨h1,h2,h3⟩:=List.pairwise_append.1 hr;obtain ⟨h4,h5⟩:=List.pairwise_cons.1 h2;show _=(l.rows++(k,v)::r.rows).filter fun p=>!Op.bytesLess p.1 lo;rw [List.filter_append,List.filter_cons];cases c:Op.bytesLess k lo with
  |true=>
   rw [yU2 c,yJE lo r h5];have e:l.rows.filter (fun p=>!Op.bytesLess p.1 lo)=[]:=List.filter_eq_nil_iff.2 fun p hp=>by have:=yG1 (h3 p hp (k,v) zW) c;rw [this];decide
   rw [e,if_neg zX];rfl
  |false=>
   rw [yQ4 c,yJE lo l h1,yJE lo r h5,if_pos zX]
section
variable {W:World} {M:List Nd} {F:Nat→Addr} {r:Rows} {t m:Nat}
abbrev xDc (x:Nat × Nat × Nat):Value:=.func (.func 184) #[] #[.pointer (some ⟨x.1,0,none⟩),.pointer (some ⟨x.2.1,0,none⟩),.pointer (some ⟨x.2.2,0,none⟩)]
abbrev yY5 (x:Nat × Nat × Nat) (a:Option Addr) (lo hi:zB):List SP:=[yAj x.1 [.pointer a] 185,yAj x.2.1 [strV lo] 9,yAj x.2.2 [strV hi] 9]
theorem ySD {p:Nat} {a:Option Addr} {b:Int} (lo hi:zB):Ct prog W 143 [zPp p,strV lo,strV hi] [tbP p a b] xDc (fun x=>tbP p a b::yY5 x a lo hi):=by
 refine zE func143 ntmps143 fun R=>?_;repeat' (first|refine zal fun g7=>?_|(refine yAW ?_;first|refine yAU (d:=5) rfl xF rfl (fun g5=>?_)|refine yAU (d:=4) rfl xF rfl (fun g4=>?_))|refine yCL ?_;refine yAa (ySv rfl rfl rfl) ?_|refine xst ?_|refine xsf ?_ ?_|intro _)
 all_goals (exact xdn (g7,g4,g5))
end
theorem KJ.absurdF {W:World} {n:Nat} {k:KK} {E:Env} {H R:List SP} (hs:Sel (yGZ False) H R):KJ W n k E H:=⟨fun _ _ _ s=>(s.left.fact hs).elim⟩
section
variable {W:World} {N:List Nd} {L:Rows} {J S:Nat→SP} {f:FuncId} {cs:List Value}
theorem yXI [FnIs prog f] (lo:zB) (hy:∀ i p,L[i]? = some p→Ct prog W f ([strV p.1,strV p.2]++cs) [J i] (fun b:Bool=>.bool b) (fun b=>match b with|true=>[J (i+1)]|false=>[S i])):∀ (t:Tr) (a:Option Addr) (i0 M:Nat),TrAt N a t→M=i0+(t.frm lo).length→(∀ j p,(t.frm lo)[j]? = some p→L[i0+j]? = some p)→
 Ct prog W 162 [.pointer a,strV lo,.func (.func f) #[] cs.toArray] [arP N,J i0] (fun x:{x:Option Nat//∀ m,x=some m→m<M}=>.bool x.1.isNone) (fun x=>[arP N,jsP J S M x.1]):=by
 intro t
 induction t with
 |nil=>
  intro a i0 M hT hM hL;cases hT;have hM:M=i0:=hM;subst hM;refine zE func162 ntmps162 fun R=>?_;repeat' (first|refine xst ?_|refine xsf ?_ ?_|refine xdr 5 yKR ?_|apply zN|intro _)
  all_goals (exact xdn ⟨none,fun m h=>by cases h⟩)
 |node yl yk yv' yr yh ys ihl ihr=>
  intro a i0 M hT hM hL;obtain ⟨b,al,ar,rfl,hm,bF,d8⟩:=hT;by_cases c:Op.bytesLess yk lo=true
  ·rw [yU2 c] at hM hL;have cr:=ihr ar i0 M d8 hM hL;refine zE func162 ntmps162 fun R=>?_;repeat' (first|refine xca cr fun x=>?_|refine yAi ?_;refine yAa (yAB (nd:=⟨b,yk,yv',al,ar,yh,ys⟩) rfl xS hm rfl) ?_|refine xqa ?_|refine xsf ?_ ?_|refine xdr 5 yKR ?_|apply zN|intro _)
   all_goals (exact xdn x)
  ·have c:Op.bytesLess yk lo=false:=by simpa using c
   rw [yQ4 c] at hM hL;rw [zLa,zLj] at hM;have cl:=ihl al i0 (i0+(yl.frm lo).length) bF rfl (fun j p h=>hL j p (by rw [zLp (zLc.1 h).1];exact h));have hyy:=hy (i0+(yl.frm lo).length) (yk,yv') (hL (yl.frm lo).length (yk,yv') (by rw [zLn (Nat.le_refl _),Nat.sub_self];rfl));have cr:=ihr ar (i0+(yl.frm lo).length+1) M d8 zO (fun j p h=>by
    have:=hL ((yl.frm lo).length+(j+1)) p (by rw [zLn zO,Nat.add_sub_cancel_left,List.getElem?_cons_succ];exact h)
    rwa [← Nat.add_assoc,← Nat.add_assoc,Nat.add_right_comm (i0+_) j 1] at this)
   obtain ⟨m0,hm0⟩:∃ z,z=i0+(yl.frm lo).length:=⟨_,rfl⟩;rw [← hm0] at cl hyy cr;refine zE func162 ntmps162 fun R=>?_;repeat' (first|refine xca cl fun x=>?_;obtain ⟨x,hx⟩:=x;refine yDw ?_|refine yAi ?_;refine yAa (yAB (nd:=⟨b,yk,yv',al,ar,yh,ys⟩) rfl xS hm rfl) ?_|refine xqa ?_|refine xsf ?_ ?_|refine xdr 5 yKR ?_|apply zN|intro _)
   refine Hold.mk ?_;dsimp only at hx ⊢;cases x with
   |some j=>
    have hj:=hx j rfl;dsimp only [jsP,Option.isNone];repeat' (first|refine yAi ?_;refine yAa (yAB (nd:=⟨b,yk,yv',al,ar,yh,ys⟩) rfl xS hm rfl) ?_|refine xst ?_|refine xsf ?_ ?_|refine xdr 5 yKR ?_|apply zN|intro _)
    all_goals exact xdn ⟨some j,fun m h=>by cases h;omega⟩ (hE:=by dsimp only [jsP];exact (xN))
   |none=>
    dsimp only [jsP,Option.isNone];repeat' (first|refine yFB ?_;refine yDw ?_|refine yAi ?_;refine yAa (yAB (nd:=⟨b,yk,yv',al,ar,yh,ys⟩) rfl xS hm rfl) ?_|refine xst ?_|refine xsf ?_ ?_|refine xdr 5 yKR ?_|apply zN|intro _)
    refine Hold.mk ?_;refine yH2 (f:=f) (fs:=#[]) (cs:=cs.toArray) (us:=[strV yk,strV yv']++cs) (vs:=[strV yk,strV yv']) rfl xE zW hyy xP rfl (fun y=>?_);cases y with
    |false=>
     dsimp only;repeat' (first|refine yAi ?_;refine yAa (yAB (nd:=⟨b,yk,yv',al,ar,yh,ys⟩) rfl xS hm rfl) ?_|refine xst ?_|refine xsf ?_ ?_|refine xdr 5 yKR ?_|apply zN|intro _)
     all_goals exact xdn ⟨some m0,fun m h=>by cases h;omega⟩ (hE:=by dsimp only [jsP];exact (xN))
    |true=>
     dsimp only;repeat' (first|refine xca cr fun z=>?_|refine yAi ?_;refine yAa (yAB (nd:=⟨b,yk,yv',al,ar,yh,ys⟩) rfl xS hm rfl) ?_|refine xst ?_|refine xsf ?_ ?_|refine xdr 5 yKR ?_|apply zN|intro _)
     all_goals (exact xdn z)
end
abbrev rgL (X:SP) (gh gy:Nat) (hi:zB) (lp:Nat):List SP:=[X,yAj gh [strV hi] 9,yAj gy [yv lp] 170]
section
variable {W:World} {gh gy lp:Nat} {k v hi:zB} {J J1 S:SP}
instance xCA:FnIs prog 185:=⟨zK⟩
instance xDd:FnIs prog 184:=⟨zK⟩
theorem yVk (hl:Op.bytesLess k hi=true) (hy:Yt prog W lp [strV k,strV v] [J] (fun b:Bool=>b) (fun b=>match b with|true=>[J1]|false=>[S])) :
 Ct prog W 185 [strV k,strV v,zPp gh,zPp gy] [yDx 61 (rgL J gh gy hi lp)] (fun b:Bool=>.bool b) (fun b=>match b with|true=>[yDx 61 (rgL J1 gh gy hi lp)]|false=>[yDx 61 (rgL S gh gy hi lp)]):=by
 refine zE func185 ntmps185 fun R=>?_;refine KJ.allOpen (L:=rgL J gh gy hi lp) xS ?_;repeat' (first|refine yFB ?_;refine yQ1 rfl xE hy xP rfl (fun y=>?_);refine yDw ?_|refine xqa ?_|refine xsf ?_ ?_|intro _)
 refine Hold.mk ?_;cases y with
 |false=>
  dsimp only;refine KJ.allShut (L:=rgL S gh gy hi lp) 61 xP ?_;repeat' (first|refine xst ?_|refine xsf ?_ ?_|intro _)
  all_goals (exact xdn false)
 |true=>
  dsimp only;refine KJ.allShut (L:=rgL J1 gh gy hi lp) 61 xP ?_;repeat' (first|refine xst ?_|refine xsf ?_ ?_|intro _)
  all_goals (exact xdn true)
theorem yXJ (hl:Op.bytesLess k hi=false) :Ct prog W 185 [strV k,strV v,zPp gh,zPp gy] [yDx 61 (rgL J gh gy hi lp)] (fun b:Bool=>.bool b) (fun b=>match b with|true=>[yDx 61 (rgL J1 gh gy hi lp)]|false=>[yDx 61 (rgL J gh gy hi lp)]):=by
 refine zE func185 ntmps185 fun R=>?_;refine KJ.allOpen (L:=rgL J gh gy hi lp) xS ?_;repeat' (first|refine xqa ?_|refine xsf ?_ ?_|intro _)
 all_goals refine KJ.allShut (L:=rgL J gh gy hi lp) 61 xP ?_
 all_goals (exact xdn false)
end
section
variable {W:World} {gh gy lp:Nat} {k v hi:zB} {X:Type}
theorem yVl {r:X→Value} {H':X→List SP} :Ct prog W 185 [strV k,strV v,zPp gh,zPp gy] [yDx 61 (rgL (yGZ False) gh gy hi lp)] r H':=by
 refine zE func185 ntmps185 fun R=>?_;refine KJ.allOpen (L:=rgL (yGZ False) gh gy hi lp) xS ?_;exact KJ.absurdF xS
end
section
variable {W:World} {N:List Nd} {a:Option Addr} {t:Tr} {lo hi:zB} {m lp:Nat} {J S:Nat→SP} {x:Nat × Nat × Nat}
structure RgOk (N:List Nd) (a:Option Addr) (t:Tr) (lo hi:zB) (m:Nat):Prop where
 at_:TrAt N a t
 le:m≤(t.frm lo).length
 yes:∀ i p,(t.frm lo)[i]? = some p→i<m→Op.bytesLess p.1 hi=true
 no:∀ p,(t.frm lo)[m]? = some p→Op.bytesLess p.1 hi=false
def jxP (J:Nat→SP) (m i:Nat):SP:=if i≤m then J i else yGZ False
def sxP (J S:Nat→SP) (m i:Nat):SP:=if i<m then S i else J m
theorem yXK {gh gy:Nat} (hR:RgOk N a t lo hi m) (hy:∀ i p,(t.frm lo)[i]? = some p→i<m→Yt prog W lp [strV p.1,strV p.2] [J i] (fun b:Bool=>b) (fun b=>match b with|true=>[J (i+1)]|false=>[S i])) (i:Nat) (p:zB × zB) (hp:(t.frm lo)[i]? = some p) :
 Ct prog W 185 ([strV p.1,strV p.2]++[zPp gh,zPp gy]) [yDx 61 (rgL (jxP J m i) gh gy hi lp)] (fun b:Bool=>.bool b) (fun b=>match b with|true=>[yDx 61 (rgL (jxP J m (i+1)) gh gy hi lp)]|false=>[yDx 61 (rgL (sxP J S m i) gh gy hi lp)]):=by
 by_cases h1:i<m
 ·have e1:jxP J m i=J i:=if_pos zO;have e2:jxP J m (i+1)=J (i+1):=if_pos zO;have e3:sxP J S m i=S i:=if_pos h1;rw [e1,e2,e3];exact yVk (hR.yes i p hp h1) (hy i p hp h1)
 ·by_cases h2:i=m
  ·subst h2;have e1:jxP J i i=J i:=if_pos (Nat.le_refl _);have e3:sxP J S i i=J i:=if_neg h1;rw [e1,e3];exact yXJ (hR.no p hp)
  ·have e1:jxP J m i=yGZ False:=if_neg zO;rw [e1];exact yVl
theorem xAp (hR:RgOk N a t lo hi m) (hy:∀ i p,(t.frm lo)[i]? = some p→i<m→Yt prog W lp [strV p.1,strV p.2] [J i] (fun b:Bool=>b) (fun b=>match b with|true=>[J (i+1)]|false=>[S i])) :
 Ct prog W 184 [yv lp,.pointer (some ⟨x.1,0,none⟩),.pointer (some ⟨x.2.1,0,none⟩),.pointer (some ⟨x.2.2,0,none⟩)] ([J 0]++(yY5 x a lo hi++[arP N]))
  (fun _:{y:Option Nat//∀ i,y=some i→i<m}=>.tuple #[]) (fun y=>[jsP J S m y.1]++(yY5 x a lo hi++[arP N])):=by
 have cr:=fun gy=>yXI (W:=W) (N:=N) (L:=t.frm lo) (f:=185) (cs:=[.pointer (some ⟨x.2.2,0,none⟩),zPp gy]) (J:=fun i=>yDx 61 (rgL (jxP J m i) x.2.2 gy hi lp)) (S:=fun i=>yDx 61 (rgL (sxP J S m i) x.2.2 gy hi lp)) lo (fun i p hp=>yXK hR hy i p hp) t a 0 (t.frm lo).length hR.at_ zO (fun j p h=>by rw [zLq];exact h);have bI:=hR.le;have e0:jxP J m 0=J 0:=if_pos (zLA _);obtain ⟨x1,x2,x3⟩:=x;dsimp only at cr ⊢;rw [e0] at cr;refine zE func184 ntmps184 fun R=>?_;repeat' (first|refine yAW ?_;refine yAU rfl xF rfl (fun gy=>?_);refine KJ.allShut (L:=rgL (J 0) x3 gy hi lp) 61 xP ?_|refine xca (cr _) fun y=>?_;obtain ⟨y,fZ⟩:=y;refine yDw ?_|refine yCL ?_;refine yAa (yCW rfl rfl) ?_|refine xst ?_|refine xsf ?_ ?_|intro _)
 all_goals refine Hold.mk ?_
 all_goals dsimp only at fZ ⊢
 cases y with
 |none=>
  dsimp only [jsP];refine KJ.allOpen (L:=rgL (jxP J m (t.frm lo).length) x3 gy hi lp) xS ?_;by_cases hM:(t.frm lo).length≤m
  ·have eM:jxP J m (t.frm lo).length=J m:=by rw [show (t.frm lo).length=m by omega];exact if_pos (Nat.le_refl _)
   rw [eM];repeat' (first|refine xst ?_|refine xsf ?_ ?_|intro _)
   all_goals (refine yCu ?_;exact yA5 zor rfl Rvs.nil ⟨none,fun i h=>by cases h⟩ (by rfl) (by dsimp only [jsP];exact (xN)))
  ·have eM:jxP J m (t.frm lo).length=yGZ False:=if_neg hM;rw [eM];exact KJ.absurdF xS
 |some i=>
  dsimp only [jsP];refine KJ.allOpen (L:=rgL (sxP J S m i) x3 gy hi lp) xS ?_;by_cases hM:i<m
  ·have eM:sxP J S m i=S i:=if_pos hM;rw [eM];repeat' (first|refine xst ?_|refine xsf ?_ ?_|intro _)
   all_goals (refine yCu ?_;exact yA5 zor rfl Rvs.nil ⟨some i,fun j h=>by cases h;exact hM⟩ (by rfl) (by dsimp only [jsP];exact (xN)))
  ·have eM:sxP J S m i=J m:=if_neg hM;rw [eM];repeat' (first|refine xst ?_|refine xsf ?_ ?_|intro _)
   all_goals (refine yCu ?_;exact yA5 zor rfl Rvs.nil ⟨none,fun i h=>by cases h⟩ (by rfl) (by dsimp only [jsP];exact (xN)))
theorem yP4 {n:Nat} {q:QQ} {gop:Operand} {En:Env} {H R:List SP} {bA:List Tmp} {aH bd:Code} (cI:q.ro=none) (hg:Env.ev En gop=some (xDc x)) (hR:RgOk N a t lo hi m) (bk:bA.length=2) (fI:∀ p ∈ bA,p<n) (J S:Nat→SP) (jump:Code) (hp:Pick ([J 0]++(yY5 x a lo hi++[arP N])) H R) (hb:∀ l i p,(t.frm lo)[i]? = some p→i<m→∀ R,KJ W n (.code prog aH (xCZ prog l bd (roundPost prog l (yPQ W (fun b:Bool=>b) (fun b=>if b then yET l .ready none n En bA.toArray aH bd::[J (i+1)] else yET l .done (some jump) n En bA.toArray aH bd::[S i]) R)))) (Env.ofPs bA [strV p.1,strV p.2] En) (yET l .ready none n En bA.toArray aH bd::[J i]++R)) (h0:KJ W n (.ex q .normal) En ([J m]++(yY5 x a lo hi++[arP N])++R)) (h1:∀ i,i<m→KJ W n (.code prog jump q) En ([S i]++(yY5 x a lo hi++[arP N])++R)):KJ W n (.code prog (Code.rangeFunc gop bA.toArray aH bd) q) En H:=by
 refine yQ3 (X:={y:Option Nat//∀ i,y=some i→i<m}) (lb:=[.pointer (some ⟨x.1,0,none⟩),.pointer (some ⟨x.2.1,0,none⟩),.pointer (some ⟨x.2.2,0,none⟩)]) (pe:=fun y=>match y.1 with|none=>none|some _=>some jump) (Hp:=fun y=>[jsP J S m y.1]++(yY5 x a lo hi++[arP N])) (v:=fun _=>.tuple #[]) cI hg (fun l=>?_) hp (fun y hx=>?_) (fun y cc hx=>?_)
 ·have key:=xAp (W:=W) (lp:=l) (x:=x) (J:=fun i=>yDx l [yET l .ready none n En bA.toArray aH bd,J i]) (S:=fun i=>yDx l [yET l .done (some jump) n En bA.toArray aH bd,S i]) hR (fun i p hi hm=>by
   have hy:=Yt.of (n:=n) (Hpre:=[J i]) (by rw [bk];rfl) fI (fun R=>hb l i p hi hm R);refine hy.conv (fun R g q=>yCf q) (fun b R g q=>?_);cases b
   ·exact yCn (L:=[yET l .done (some jump) n En bA.toArray aH bd,S i]) q
   ·exact yCn (L:=[yET l .ready none n En bA.toArray aH bd,J (i+1)]) q)
  refine key.conv (fun R g q=>yCn (L:=[yET l .ready none n En bA.toArray aH bd,J 0]) q) (fun y R g q=>?_);obtain ⟨y,hy⟩:=y;cases y
  ·exact yCf (L:=[yET l .ready none n En bA.toArray aH bd,J m]) q
  ·exact yCf (L:=[yET l .done (some jump) n En bA.toArray aH bd,S _]) q
 ·obtain ⟨y,eI⟩:=y;cases y with
  |none=>exact h0
  |some i=>cases hx
 ·obtain ⟨y,eI⟩:=y;cases y with
  |none=>cases hx
  |some i=>
   cases hx;exact h1 i (eI i rfl)
end
def yE7 (lo:zB) (r:Rows):Rows:=r.filter fun p=>!Op.bytesLess p.1 lo
def yE8 (lo hi:zB) (r:Rows):Rows:=(yE7 lo r).filter fun p=>Op.bytesLess p.1 hi
theorem yVm {r:Rows} (h:RisR r) (lo:zB):RisR (yE7 lo r):=List.Pairwise.sublist List.filter_sublist h
theorem yHu {r:Rows} (h:RisR r) (lo hi:zB):yE8 lo hi r=(yE7 lo r).take (ySy hi (yE7 lo r)):=yKO (yVm h lo)
theorem yVn (lo:zB):∀ (t:Tr),RisR t.rows→t.frm lo=yE7 lo t.rows:=yJE lo
theorem xDe {N:List Nd} {a:Option Addr} {r:Rows} (h:TbOk N a r) (lo hi:zB):∃ t:Tr,RgOk N a t lo hi (ySy hi (yE7 lo r))∧t.frm lo=yE7 lo r:=by
 obtain ⟨t,h1,-,h3,h4⟩:=h;have hf:t.frm lo=yE7 lo r:=by rw [yVn lo t (by rw [h3];exact h4),h3]
 have k1:=yVa hi (yE7 lo r);have k2:=yRc hi (yE7 lo r);have k3:=yNb hi (yE7 lo r);refine ⟨t,?_,hf⟩;generalize ySy hi (yE7 lo r)=m at k1 k2 k3 ⊢;rw [← hf] at k1 k2 k3;exact ⟨h1,k3,k1,k2⟩
theorem RgOk.mono {N M:List Nd} {a:Option Addr} {t:Tr} {lo hi:zB} {m:Nat} (h:RgOk N a t lo hi m) (hs:∀ x ∈ N,x ∈ M):RgOk M a t lo hi m:=⟨h.at_.mono hs,h.le,h.yes,h.no⟩
end Go.Proofs.YtoipmnikdiogcaaGreatDoor
