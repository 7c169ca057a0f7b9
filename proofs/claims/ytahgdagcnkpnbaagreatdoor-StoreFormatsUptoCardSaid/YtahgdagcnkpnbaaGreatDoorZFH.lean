/-
  DeS, StWD, StF0, StL0.
-/
import Derived.Test.YtahgdagcnkpnbaaGreatDoorZEC
import Derived.Test.YtahgdagcnkpnbaaGreatDoorZEV
import Derived.Test.YtahgdagcnkpnbaaGreatDoorZEL
import Derived.Test.YtahgdagcnkpnbaaGreatDoorZFL
import Derived.Test.YtahgdagcnkpnbaaGreatDoorZFD
import Derived.Test.YtahgdagcnkpnbaaGreatDoorZDN
import Derived.Test.YtahgdagcnkpnbaaGreatDoorZEY
set_option maxHeartbeats 64000000
namespace Go.Proofs.YtahgdagcnkpnbaaGreatDoor
open Go Go.RowKit
abbrev plZFH0:Pl:=(.op 0 (.op 1 (.op 2 (.op 3 (.op 4 (.op 8 (.ef 5 [8,0] (.op 6 (.op 7 (.ef 9 [] .nil))))))))))
abbrev plZFH1:Pl:=(.op 0 (.op 1 (.op 2 (.op 3 (.op 4 (.op 5 (.op 6 (.op 7 (.op 8 (.op 9 (.op 10 (.op 11 (.op 12 (.op 13 (.op 14 (.op 15 (.op 16 (.op 17 (.op 18 (.op 19 (.ef 20 [] (.op 21 (.op 22 (.op 23 (.op 24 (.op 25 .nil))))))))))))))))))))))))))
abbrev plZFH2:Pl:=(.op 0 (.op 1 (.op 2 (.op 3 (.op 4 (.op 5 (.op 6 (.op 7 (.op 8 (.op 9 (.op 10 (.op 11 (.op 12 (.op 13 (.op 14 (.ef 15 [] (.op 16 (.op 17 (.op 18 (.op 19 (.op 20 .nil)))))))))))))))))))))
abbrev plZFH3:Pl:=(.op 0 (.op 1 (.op 2 (.op 3 (.op 5 (.op 8 (.ef 4 [8,5] (.ef 6 [8] (.op 7 (.ef 9 [] .nil))))))))))
abbrev plZFH4:Pl:=(.op 0 (.ef 1 [0] (.ef 2 [] .nil)))
abbrev plZFH5:Pl:=(.op 0 (.op 1 (.ef 2 [0] (.ef 3 [] (.ef 4 [] .nil)))))
abbrev plZFH6:Pl:=(.op 0 (.op 1 (.op 2 (.op 3 (.op 4 (.op 5 (.op 6 (.op 7 (.op 8 .nil)))))))))
section
variable {P:Program} {W:World} {n:Nat} {E:Env} {H H' R:List SP} {q:QQ} {X:Type}
structure CtR (P:Program) (W:World) (f:FuncId) (args:List Value) (u u':FrameMode) (Hpre:List SP) {X:Type} (Hp:X→List SP):Prop where
 go:∀ R w,St W (Hpre++R) w→CallsDIn Fence.wide 0 P f args.toArray u w fun e m w'=>∃ x v,e=.returned v∧m=u'∧St W (Hp x++R) w'
theorem CtR.enter {f:FuncId} {args:List Value} {u u':FrameMode} {Hpre:List SP} {Hp:X→List SP} {fn:Func} {c:Code} (hf:P.funcs[f]? = some fn) (hb:fn.body=some c) (hn:fn.ntmps=n) (hk:args.length≤n)
 (h:∀ (R:List SP) (c₀:Frame) (cs:List Frame),c₀.mode=u→KS W n (c.wpSIn Fence.wide 0 P (bodyPostS P fn c₀ cs fun e m w'=>∃ x v,e=.returned v∧m=u'∧St W (Hp x++R) w')) (c₀::cs) (Env.ofArgs args 0) (Hpre++R)):CtR P W f args u u' Hpre Hp:=by
 refine ⟨fun R w s=>?_⟩
 refine callsDIn_of_wpSIn hf hb trivial fun c₀ cs hu=>(h R c₀ cs hu).go _ w ⟨?_,fun t v e=>?_⟩ s rfl
 ·simp [hn];omega
 ·obtain ⟨_,h2⟩:=Env.ofArgs_at args 0 t v e
  have hl:=(List.getElem?_eq_some_iff.1 h2).1
  simp only [Nat.sub_zero] at h2 hl
  show (args.toArray++_)[t]? = _
  rw [Array.getElem?_append_left (by simpa using hl)]
  simpa using h2
theorem KJ_doneR {f:Func} {c₀:Frame} {cs:List Frame} {u':FrameMode} {Hp:X→List SP} {ex:Exit} (x:X) (hex:ex=.ret∨ex=.normal) (hr:f.results=#[]) (hE:∀ g,zAw H g→zAw (Hp x++R) g) :
 KJ W n (liftK (fun _=>[]) (.ex (.top fun e a w=>bodyPostS P f c₀ cs (fun e m w'=>∃ x v,e=.returned v∧m=u'∧St W (Hp x++R) w') e a ({ c₀ with mode:=u' }::cs) w) ex)) E H:=by
 refine ⟨fun a w p s=>?_⟩
 have h1:(results f a.tmps).run P w=.ok (.tuple #[]) w:=by
  simp [Go.results,hr]
 have h2:bodyPostS P f c₀ cs (fun e m w'=>∃ x v,e=.returned v∧m=u'∧St W (Hp x++R) w') .normal { a with defers:=[] } ({ c₀ with mode:=u' }::cs) w:=⟨rfl,u',rfl,_,h1,x,_,rfl,rfl,(s.left).mono hE⟩
 rcases hex with rfl|rfl
 ·exact h2
 ·exact h2
theorem leaves_fnR {fn:Func} {tmps:Array Value} {Rr:Ending→World→Prop} {d:Deferred} {ds:List Deferred} {u u':FrameMode} {w:World} {f:FuncId} {args:List Value} {Hpre R:List SP} {Hp:X→List SP} (cd:CtR P W f args u u' Hpre Hp) (hu:u≠.run) {fv:Fn} {cap:Array Value} (htar:d.target=.fn fv cap) (hinv:(invoke d.target d.args).run P w=.ok (.enter f args.toArray) w)
 (s:St W (Hpre++R) w) (h:∀ x w',St W (Hp x++R) w'→LeavesInM Fence.wide 0 P fn tmps Rr ds (settle u') w'):LeavesInM Fence.wide 0 P fn tmps Rr (d::ds) u w:=by
 refine ⟨hu,.inr ⟨fun e=>by simp [Fence.wide] at e,fv,cap,f,args.toArray,htar,hinv,fun _ _=>trivial,?_⟩⟩
 obtain ⟨hF,hc⟩:=cd.go R w s
 refine ⟨hF,fun c cs hm hr=>?_⟩
 obtain ⟨e,m,w',fr,⟨x,v,rfl,rfl,hS⟩,h1,h2,h3,h4⟩:=hc c cs hm hr
 exact ⟨_,_,w',fr,h x w' hS,h1,h2,h3,h4⟩
theorem KJ.liftCallPn {D:List Deferred→List Deferred} {ops:Array Oper} {l:List Oper} {d:Option Tmp} {ty:TypeId} {pos:String} {af:Array Edge} {f:FuncId} {xs:List Operand} {ts:Array TypeId} {vs:List Value} {Hpre:List SP} {r:X→Value} {Hp:X→List SP} (hro:q.ro=none) (hx:Evs E xs vs) [hf:FnIs P f] (hc:Pn P W f vs Hpre r Hp) (hp:Pick Hpre H R)
 (h:∀ c,KJ W n (liftK D (.ex q (.panic (pnc (r c))))) E (Hp c++R)):KJ W n (liftK D (.list P ops q (⟨d,.call { callee:=.value (.func f),args:=xs.toArray,argTypes:=ts },ty,pos,af,none⟩::l))) E H:=by
 refine ⟨fun a w p s=>?_⟩
 show wpListIn (fen q.ro) 0 P ops q.den (⟨d,.call { callee:=.value (.func f),args:=xs.toArray,argTypes:=ts },ty,pos,af,none⟩::l) { a with defers:=D a.defers } w
 refine wpListIn_step fun K hK=>?_
 rw [if_pos (by simp [Region.wanted])]
 refine ⟨fun _ _=>trivial,?_⟩
 have hs:(⟨d,.call { callee:=.value (.func f),args:=xs.toArray,argTypes:=ts },ty,pos,af,none⟩:Oper).semAt (fen q.ro).round ({ a with defers:=D a.defers }:Act).eval=execOp a.eval ⟨d,.call { callee:=.value (.func f),args:=xs.toArray,argTypes:=ts },ty,pos,af,none⟩:=by
  rw [show (fen q.ro).round=none from hro]
  rfl
 rw [hs,run_call (hf:=hf) rfl hx p w]
 refine ⟨fun e=>by simp at e,?_⟩
 have s2:St W (Hpre++(R++dm a.defers)) w:=by
  rw [← List.append_assoc]
  exact s.perm (hp.perm.append_right _)
 exact (callsIn_wide (n:=0)).2 ((hc.go _ w s2).mono fun e w' ⟨c,he,hS⟩=>by
  subst he
  exact (h c).go a w' p (by show St W ((Hp c++R)++dm a.defers) w';rw [List.append_assoc];exact hS))
theorem KJ.liftPnSeq {D:List Deferred→List Deferred} {ch:List PanicEntry} {y:Code} (h:KJ W n (liftK D (.ex q (.panic ch))) E H):KJ W n (liftK D (.ex (.seq P y q) (.panic ch))) E H:=⟨h.go⟩
theorem KJ.liftPnBlk {D:List Deferred→List Deferred} {ch:List PanicEntry} {id:Nat} (h:KJ W n (liftK D (.ex q (.panic ch))) E H):KJ W n (liftK D (.ex (.blk id q) (.panic ch))) E H:=⟨h.go⟩
theorem KJ.liftDonePn2 {f1 f2:FuncId} [FnIs P f1] [FnIs P f2] {cap1 a1 cap2 a2:Array Value} {v1 v2:List Value} {v:Value} {H1 H1' H2 H2' R1 R2:List SP} (hv1:a1++cap1=v1.toArray) (hv2:a2++cap2=v2.toArray) (c1:CtR P W f1 v1 .returning .returning H1 (fun _:Unit=>H1')) (c2:CtR P W f2 v2 (.panicking (pnc v)) (.panicking [{ v,recovered:=true }]) H2 (fun _:Unit=>H2')) (hp2:Pick H2 H R2) (hp1:Pick H1 (H2'++R2) R1)
 {r:X→Value} {Hp:X→List SP} {fn:Func} {rs:List ResultVar} {vs:List Value} (hr:fn.results=rs.toArray) (hv:Rvs P E (H1'++R1) rs vs) (c:X) (hc:tupleV vs=r c) (hE:∀ g,zAw (H1'++R1) g→zAw (Hp c++R) g) :
 KJ W n (liftK (fun l=>⟨.fn (.func f2) cap2,a2⟩::⟨.fn (.func f1) cap1,a1⟩::l) (.ex (.top (bodyPostM Fence.wide 0 P fn (Post W r Hp R))) (.panic (pnc v)))) E H:=by
 refine KJ.liftTop fun a w p s=>?_
 have fin:=leaves_marks (W:=W) (P:=P) (fn:=fn) (tmps:=a.tmps) (H:=H1'++R1) (R:=R) c hc hE (fun w s=>hv.results_run hr p s) a.defers
 have st1:∀ w,St W ((H2'++R2)++dm a.defers) w→LeavesInM Fence.wide 0 P fn a.tmps (Post W r Hp R) (⟨.fn (.func f1) cap1,a1⟩::a.defers) .returning w:=fun w s=>
  leaves_fnR c1 (by simp) rfl (by rw [← hv1];exact inv_fn cap1 a1 w) ((s.perm (hp1.perm.append_right _)).perm (by rw [List.append_assoc])) (fun x w' s'=>fin w' (by rw [List.append_assoc];exact s'))
 exact leaves_fnR c2 (by simp) rfl (by rw [← hv2];exact inv_fn cap2 a2 w) ((s.perm (hp2.perm.append_right _)).perm (by rw [List.append_assoc])) (fun x w' s'=>st1 w' (by rw [List.append_assoc];exact s'))
theorem Ev_tassert {x:Operand} {xt t:TypeId} {v:Value} {d:TypeDesc} (hx:Env.ev E x=some (.iface t v)) (hu:P.underlying t=some d) (hd:∀ m,d≠.interface m):Ev P W n E H (.typeAssert x xt t true) (.tuple #[v,.bool true]):=
 Ev.mk fun o ho a w p _=>by
  have e:(Instr.typeAssert (.iface t v) xt t true).run P w=.ok (.tuple #[v,.bool true]) w:=by
   unfold Instr.typeAssert
   cases d <;> simp_all [run_underlying hu]
  simp [execOp,ho,p.ev hx,e]
end
end Go.Proofs.YtahgdagcnkpnbaaGreatDoor
namespace Go.Proofs.YtahgdagcnkpnbaaGreatDoor
open Go Go.RowKit
abbrev brk (F:Nat→Addr) (e:Nat):Value:=.iface 225 (.agg #[errV F e])
section
variable {W:World} {F:Nat→Addr} {q s d n g:Nat} {D:Dsk}
theorem must_pn (e:Nat) (he:e≠0):Pn Tryz.prog W 158 [errV F e] [] (fun _:Unit=>brk F e) (fun _=>[]):=by
 obtain ⟨ea,hea⟩:=errV_ne (E:=F) he
 unfold brk
 rw [hea]
 refine Pn.enter Tryz.func158 rfl Tryz.ntmps158 (by simp) (fun R=>?_)
 repeat' (first|((refine KJ_panic rfl rfl ?_))|((refine KJ.pnSeq ?_))|((refine KJ.pnThn ?_))|((refine KJ.pnBlk ?_))|(refine ek_build ?_;refine zAc (Ev_build xV xW) ?_)|refine xst ?_|(refine xsa ?_;intro _)|(refine xsb ?_ ?_ <;>intro _<;>try (exfalso;omega))|refine xsc ?_|fail)
 all_goals exact KJ_donePn () rfl (xN)
theorem sload_pn (hE8:ErrsOn L8 W F) (hN:NibAt W) (h2:n≤65536) (life:Int) (hn:D.n=n) (e:Nat) (he:slotE D 0=e) (hne:e≠0) :
 Pn Tryz.prog W 104 [.pointer (some ⟨s,0,none⟩)] [stP s d q n 0 none life false,DiskP d D] (fun _:Unit=>brk F e) (fun _=>[stP s d q n 0 none life false,DiskP d D]):=by
 have cr:Ct Tryz.prog W 98 [.pointer (some ⟨d,0,none⟩),.int .i64 0] [DiskP d D] (fun _:Unit=>.tuple #[strV (slotS D 0),.int .i64 (slotN D 0),errV F e]) (fun _=>[DiskP d D]):=by
  have:=sread_ct (W:=W) (p:=d) (D:=D) hE8 hN (by omega) 0
  rw [he] at this
  exact this
 have cm:=must_pn (W:=W) (F:=F) e hne
 refine Pn.enter Tryz.func104 rfl Tryz.ntmps104 (by simp) (fun R=>?_)
 repeat' (first|((refine KJ_callPn rfl xE cm xP (fun _=>?_)))|((refine KJ.pnSeq ?_))|((refine KJ.pnThn ?_))|((refine KJ.pnBlk ?_))|(refine zAd ?_;refine zAa xE cr xP rfl (fun _=>?_))|refine xst ?_|(refine xsa ?_;intro _)|(refine xsb ?_ ?_ <;>intro _<;>try (exfalso;omega))|refine xsc ?_|(refine zAb (id:=8) plZFH0 (by kernel_rfl) (by kernel_rfl) ?_)|(refine zAb (id:=9) plZFH1 (by kernel_rfl) (by kernel_rfl) ?_)|(refine zAb (id:=12) plZFH2 (by kernel_rfl) (by kernel_rfl) ?_)|(refine zAb (id:=21) plZFH3 (by kernel_rfl) (by kernel_rfl) ?_)|refine zAm ?_ ?_|refine zAk rfl rfl rfl rfl rfl ?_ ?_|refine zAf ?_ ?_|exact Rech.nil|fail)
 all_goals exact KJ_donePn () rfl (xN)
theorem caught_pn (g e:Nat) (he:e≠0):CtR Tryz.prog W 103 [.pointer (some ⟨g,0,none⟩)] (.panicking (pnc (brk F e))) (.panicking [{ v:=brk F e,recovered:=true }]) [zAg g [.nilIface] 34] (fun _:Unit=>[zAg g [errV F e] 34]):=by
 obtain ⟨ea,hea⟩:=errV_ne (E:=F) he
 unfold brk
 rw [hea]
 refine CtR.enter Tryz.func103 rfl Tryz.ntmps103 (by simp) (fun R c₀ cs hu=>?_)
 refine KS_seq ?_
 refine KS_region ?_
 refine KS_recoverSome (i:=0) (rest:=[]) (v:=.iface 225 (.agg #[.iface 369 (.pointer (some ea))])) (cs':={ c₀ with mode:=.panicking [{ v:=.iface 225 (.agg #[.iface 369 (.pointer (some ea))]),recovered:=true }] }::cs) rfl (by simp [recoverD,hu]) rfl ?_
 refine KS_nil ?_
 refine KS_then ?_
 refine KS_rest ?_
 repeat' (first|(refine KJ.liftStp (by constructor) ?_)|(refine KJ.liftCondT rfl ?_)|(refine KJ.liftCondF rfl ?_)|(refine KJ.liftOper ?_)|(refine zAc (Ev_tassert rfl Tryz.underlying225 (by intro m h;cases h)) ?_)|(refine zBn ?_;refine zBk rfl (fun g3=>?_))|refine xst ?_|(refine xsa ?_;intro _)|(refine xsb ?_ ?_ <;>intro _<;>try (exfalso;omega))|refine xsc ?_|fail)
 all_goals exact KJ_doneR () (by first|exact Or.inl rfl|exact Or.inr rfl) rfl (xN)
theorem open1_err (ge gs x e:Nat) (he:e≠0):CtR Tryz.prog W 102 [.pointer (some ⟨ge,0,none⟩),.pointer (some ⟨gs,0,none⟩)] .returning .returning [zAg ge [errV F e] 34,zAg gs [.pointer (some ⟨x,0,none⟩)] 27] (fun _:Unit=>[zAg ge [errV F e] 34,zAg gs [.pointer none] 27]):=by
 have hne:=errNe (F:=F) he
 refine CtR.enter Tryz.func102 rfl Tryz.ntmps102 (by simp) (fun R c₀ cs hu=>?_)
 have hc:(c₀::cs)={ c₀ with mode:=.returning }::cs:=by rw [← hu]
 rw [hc]
 refine KS_rest ?_
 repeat' (first|(refine KJ.liftStp (by constructor) ?_)|(refine KJ.liftCondT rfl ?_)|(refine KJ.liftCondF rfl ?_)|(refine KJ.liftOper ?_)|(refine zBa ?_;refine zAc (Ev_neqNil rfl hne) ?_)|refine xst ?_|(refine xsa ?_;intro _)|(refine xsb ?_ ?_ <;>intro _<;>try (exfalso;omega))|refine xsc ?_|fail)
 all_goals exact KJ_doneR () (by first|exact Or.inl rfl|exact Or.inr rfl) rfl (xN)
set_option maxRecDepth 100000 in
theorem sopenE_ct (hE8:ErrsOn L8 W F) (hN:NibAt W) (h1:64≤n) (h2:n≤65536) (hn:D.n=n) (ho:D.off=false) (e:Nat) (he:slotE D 0=e) (hne:e≠0) :
 Ct Tryz.prog W 43 [.pointer (some ⟨d,0,none⟩)] [DiskP d D] (fun _:Unit=>.tuple #[.pointer none,errV F e]) (fun _=>[DiskP d D]):=by
 have csz:Ct Tryz.prog W 97 [.pointer (some ⟨d,0,none⟩)] [DiskP d D] (fun _:Unit=>.int .i64 (n:Nat)) (fun _=>[DiskP d D]):=by
  have:=size_ct (W:=W) (p:=d) (D:=D)
  rw [hn] at this
  exact this
 have cof:Ct Tryz.prog W 56 [.pointer (some ⟨d,0,none⟩)] [DiskP d D] (fun _:Unit=>.bool false) (fun _=>[DiskP d D]):=by
  have:=off_ct (W:=W) (p:=d) (D:=D)
  rw [ho] at this
  exact this
 have cov:=over_ct (W:=W) (d:=d) (D:=D) h1 h2 hn
 have clo:=fun s q=>sload_pn (W:=W) (F:=F) (s:=s) (d:=d) (q:=q) (D:=D) hE8 hN h2 D.life hn e he hne
 have q1:decide ((n:Int)<64)=false:=decide_eq_false (by omega)
 refine Ct.enter Tryz.func43 rfl Tryz.ntmps43 (by simp) (fun R=>?_)
 refine KJ.lift0 ?_
 repeat' (first|(refine KJ.liftCallPn rfl xE (clo _ _) xP (fun _=>?_))|(refine KJ.liftPnSeq ?_)|(refine KJ.liftPnBlk ?_)|(refine KJ.liftDeferF rfl (Evs.cons (v:=.pointer (some ⟨_,0,none⟩)) rfl Evs.nil) ?_)|(refine KJ.liftDeferV rfl rfl xE ?_)|(refine KJ.liftStp (by constructor) ?_)|(refine KJ.liftCondT rfl ?_)|(refine KJ.liftCondF rfl ?_)|(refine KJ.liftOper ?_)|(refine zBn ?_;first|(refine zBk (d:=3) rfl (fun ge=>?_))|(refine zBk (d:=2) rfl (fun gs=>?_)))|(refine zAd ?_;first|(refine zAa xE cov xP rfl (fun x=>?_);obtain ⟨s,q⟩:=x)|(refine zAa xE cof xP rfl (fun _=>?_))|(refine zAa xE csz xP rfl (fun _=>?_)))|(refine ek_mkFunc ?_;refine zAc (Ev_mkFunc2 rfl rfl) ?_)|(refine zAq ?_;refine zAc (zAe rfl rfl q1) ?_)|refine xst ?_|(refine xsa ?_;intro _)|(refine xsb ?_ ?_ <;>intro _<;>try (exfalso;omega))|refine xsc ?_|(refine zAb (id:=2) plZFH4 (by kernel_rfl) (by kernel_rfl) ?_)|(refine KJ.liftDraws (id:=2) plZFH4 (by kernel_rfl) (by kernel_rfl) ?_)|(refine zAb (id:=4) plZFH4 (by kernel_rfl) (by kernel_rfl) ?_)|(refine KJ.liftDraws (id:=4) plZFH4 (by kernel_rfl) (by kernel_rfl) ?_)|(refine zAb (id:=9) plZFH5 (by kernel_rfl) (by kernel_rfl) ?_)|(refine KJ.liftDraws (id:=9) plZFH5 (by kernel_rfl) (by kernel_rfl) ?_)|refine zAm ?_ ?_|refine zAk rfl rfl rfl rfl rfl ?_ ?_|refine zAf ?_ ?_|exact Rech.nil|fail)
 all_goals exact KJ.liftDonePn2 (v1:=[.pointer (some ⟨ge,0,none⟩),.pointer (some ⟨gs,0,none⟩)]) (v2:=[.pointer (some ⟨ge,0,none⟩)]) rfl rfl (open1_err ge gs s e hne) (caught_pn ge e hne) xP xP rfl (Rvs.cell rfl inferInstance xS rfl (Rvs.cell rfl inferInstance xS rfl Rvs.nil)) () (by rfl) (xN)
end
end Go.Proofs.YtahgdagcnkpnbaaGreatDoor
namespace Go.Proofs.YtahgdagcnkpnbaaGreatDoor
open Go Go.RowKit
def fx1:List BOp:=[⟨false,[98],[50]⟩,⟨false,[97],[49]⟩]
def fxR:Rows:=[([97],[49]),([98],[50])]
def fx2:List BOp:=[⟨true,[97],[]⟩,⟨false,[99],[]⟩]
def fxS:Rows:=[([98],[50]),([99],[])]
theorem fx_rows:zAx [] fx1=fxR:=by decide
theorem fx_ris:RisR fxR:=by rw [← fx_rows];exact applyB_ris List.Pairwise.nil _
theorem fx_size:(zAp fxR).length=9:=by decide
theorem fx_norm:zBj fx2=fx2:=by decide
theorem fx_next:zAx fxR fx2=fxS:=by decide
theorem fx_size2:(zAp fxS).length=8:=by decide
theorem fx_get:lk fxS [98]=some [50]:=by decide
theorem fx_enc:(encAll fx2).length=8:=by decide
theorem fx_comm:commE 64 fxR fx2=0:=by decide
end Go.Proofs.YtahgdagcnkpnbaaGreatDoor
namespace Go.Proofs.YtahgdagcnkpnbaaGreatDoor
open Go Go.RowKit
abbrev ropP (x:Option Addr × Nat) (l:Rows):SP:=lsP rC 51 2 (.slice x.1 l.length x.2) l
section
variable {W:World} {F:Nat→Addr} {N:List Nd} {a:Option Addr} {r:Rows} {s d q n:Nat} {b:Int}
instance fn_same13:FnIs Tryz.prog 47:=⟨by kernel_rfl⟩
instance fn_fixed13:FnIs Tryz.prog 37:=⟨by kernel_rfl⟩
instance fn_sver:FnIs Tryz.prog 44:=⟨by kernel_rfl⟩
instance fn_ssizeL:FnIs Tryz.prog 28:=⟨by kernel_rfl⟩
theorem srows13_ct (A B:SP) (a b:Option Addr) (c d:Nat) (l:Rows) (hA:Lv W rC 2 A a l) (hB:Lv W rC 2 B b l) (h1:l.length≤4611686018427387904) :
 Ct Tryz.prog W 47 [.slice a l.length c,.slice b l.length d] [A,B] (fun _:Unit=>.bool true) (fun _=>[A,B]):=by
 have q:((l.length:Nat):Int)=(l.length:Nat):=rfl
 refine Ct.enter Tryz.func47 rfl Tryz.ntmps47 (by simp) (fun R=>?_)
 repeat' (first|(refine zBa ?_;refine zAc (zBs rfl rfl q) ?_)|refine xst ?_|(refine xsa ?_;intro _)|(refine xsb ?_ ?_ <;>intro _<;>try (exfalso;omega))|refine xsc ?_|(refine zAb (id:=6) plZFH6 (by kernel_rfl) (by kernel_rfl) ?_)|refine zAm ?_ ?_|refine zAk rfl rfl rfl rfl rfl ?_ ?_|refine zAf ?_ ?_|exact Rech.nil|fail)
 refine zBx (fun i:{i:Nat//i≤l.length}=>[(0,.slice a l.length c),(1,.slice b l.length d),(12,.int .i64 (l.length:Nat)),(13,.int .i64 (i.1:Nat))])
  (fun _=>[A,B]++R) (fun i=>l.length-i.1) ⟨0,Nat.zero_le _⟩ xB (xN) (fun ⟨i,hi⟩=>?_)
 dsimp only
 by_cases hlt:i<l.length
 rotate_left
 ·have ql:decide ((i:Int)<(l.length:Nat))=false:=decide_eq_false (by omega)
  repeat' (first|(refine zAq ?_;refine zAc (zAe rfl rfl ql) ?_)|refine xst ?_|(refine xsa ?_;intro _)|(refine xsb ?_ ?_ <;>intro _<;>try (exfalso;omega))|refine xsc ?_|(refine zAb (id:=6) plZFH6 (by kernel_rfl) (by kernel_rfl) ?_)|refine zAm ?_ ?_|refine zAk rfl rfl rfl rfl rfl ?_ ?_|refine zAf ?_ ?_|exact Rech.nil|fail)
  all_goals (exact xdn ())
 have ql:decide ((i:Int)<(l.length:Nat))=true:=decide_eq_true (by omega)
 obtain ⟨x,hx⟩:∃ s,l[i]? = some s:=⟨_,List.getElem?_eq_getElem hlt⟩
 refine KJ.lvSome hA xS (by omega) (fun ba oa hab=>?_)
 subst hab
 refine KJ.lvSome hB xS (by omega) (fun bb ob hab=>?_)
 subst hab
 have ho1:oa+Int.toNat (i:Int)*2=oa+i*2:=by rw [Int.toNat_natCast]
 have ho2:ob+Int.toNat (i:Int)*2=ob+i*2:=by rw [Int.toNat_natCast]
 have hq:(!decide (x=x))=false:=by simp
 repeat' (first|(refine zAj ?_;first|refine zAc (zCg rC_ok hA rfl rfl xS ho1 hx) ?_|refine zAc (zCg rC_ok hB rfl rfl xS ho2 hx) ?_)|(refine zBg ?_;refine zAc (zAh (r:=((i+1:Nat):Int)) rfl rfl (by omega) (by omega)) ?_)|(refine zBa ?_;refine zAc (Ev_neqSt rfl rfl (row14_eqF x x Tryz.underlying51) hq) ?_)|(refine zAq ?_;refine zAc (zAe rfl rfl ql) ?_)|refine xst ?_|(refine xsa ?_;intro _)|(refine xsb ?_ ?_ <;>intro _<;>try (exfalso;omega))|refine xsc ?_|(refine zAb (id:=6) plZFH6 (by kernel_rfl) (by kernel_rfl) ?_)|refine zAm ?_ ?_|refine zAk rfl rfl rfl rfl rfl ?_ ?_|refine zAf ?_ ?_|exact Rech.nil|fail)
 all_goals refine zAz ⟨i+1,hlt⟩ (by show l.length-(i+1)<l.length-i;omega) xB (xN)
theorem sver_ct (v:Int) (lg:Option Addr) (life:Int) (dead:Bool):Ct Tryz.prog W 44 [.pointer (some ⟨s,0,none⟩)] [stP s d q n v lg life dead] (fun _:Unit=>.int .i64 v) (fun _=>[stP s d q n v lg life dead]):=by
 refine Ct.enter Tryz.func44 rfl Tryz.ntmps44 (by simp) (fun R=>?_)
 repeat' (first|refine xst ?_|(refine xsa ?_;intro _)|(refine xsb ?_ ?_ <;>intro _<;>try (exfalso;omega))|refine xsc ?_|fail)
 all_goals (exact xdn ())
theorem ssizeL (v:Int) (lg:Option Addr) (life:Int) (dead:Bool) (hT:TbOk N a r) (hs:(zAp r).length≤4611686018427387904):Ct Tryz.prog W 28 [.pointer (some ⟨s,0,none⟩)] [stP s d q n v lg life dead,tbP q a b,arP N] (fun _:Unit=>.int .i64 ((zAp r).length:Nat)) (fun _=>[stP s d q n v lg life dead,tbP q a b,arP N]):=by
 have cs:=ssize_ct (W:=W) (N:=N) (p:=q) (b:=b) hT hs
 refine Ct.enter Tryz.func28 rfl Tryz.ntmps28 (by simp) (fun R=>?_)
 repeat' (first|(refine zAd ?_;refine zAa xE cs xP rfl (fun _=>?_))|refine xst ?_|(refine xsa ?_;intro _)|(refine xsb ?_ ?_ <;>intro _<;>try (exfalso;omega))|refine xsc ?_|fail)
 all_goals (exact xdn ())
theorem blank_slot (n:Nat) (h1:64≤n) (h2:n≤65536):slotE (Dsk.blank n) 0=14:=by
 have hb:=blank_rest n (by omega) h2
 obtain ⟨t1,t2,t3⟩:=Holds.told hb (a:=0) (by show 0+2≤n;omega) (Holds.blank n 0 (by omega))
 rw [if_pos rfl] at t1
 exact t1
theorem fixed13_ct (hE:ErrsAt W F) (hN:NibAt W) (hg:gB≤W.heap.size):Ct Tryz.prog W 37 [] [] (fun _:Unit=>.bool true) (fun _=>[]):=by
 have hE16:ErrsOn L16 W F:=hE.to16
 have hE8:ErrsOn L8 W F:=hE16.to8
 have hA64:layA 64=20:=by decide
 have hsn:(zAp fxR).length≤234*layA 64:=by rw [fx_size,hA64];omega
 have cn:Ct Tryz.prog W 38 [.int .i64 64] [] (fun p:Nat=>.tuple #[.pointer (some ⟨p,0,none⟩),.nilIface]) (fun p=>[DiskP p (Dsk.blank 64)]):=new_ct 64 (by omega) (by omega) hg
 have cb:=fun d=>sopenE_ct (W:=W) (F:=F) (d:=d) (D:=Dsk.blank 64) (n:=64) hE8 hN (by omega) (by omega) rfl rfl 14 (blank_slot 64 (by omega) (by omega)) (by omega)
 have cf:=fun (d gb:Nat)=>snewF_ct (W:=W) (F:=F) (d:=d) hE16 hE8 hN (n:=64) (by omega) (by omega) (zAg gb [.bool false,strV [98],strV [50],.bool false,strV [97],strV [49]] 43) (some ⟨gb,0,none⟩) 2 fx1 (Lv.cells rfl) (by decide) fx_rows hsn
 have co:=fun d=>snewX_ct (W:=W) (F:=F) (d:=d) hE16 hE8 hN (n:=64) (by omega) (by omega) fx_ris hsn
 have c14:=numA_ct hE hg 14 (by omega)
 have c21:=numA_ct hE hg 21 (by omega)
 have f1l:fx1.length=2:=rfl
 have f2l:fx2.length=2:=rfl
 have hrl:fxR.length=2:=rfl
 rw [f1l] at cf
 refine Ct.enter Tryz.func37 rfl Tryz.ntmps37 (by simp) (fun R=>?_)
 repeat' (first|(refine at_seq_region (id:=5) ?_;refine hold ?_)|(refine zAd ?_;first|(refine zAa xE (cb _) xP rfl (fun _=>?_))|(refine zAa xE cn xP rfl (fun d=>?_)))|refine xst ?_|(refine xsa ?_;intro _)|(refine xsb ?_ ?_ <;>intro _<;>try (exfalso;omega))|refine xsc ?_|fail)
 refine Hold.mk ?_
 repeat' (first|(refine at_seq_region (id:=9) ?_;refine hold ?_)|(refine zAd ?_;first|(refine zAa xE (co _) xP rfl (fun y=>?_))|(refine zAa xE c14 xP rfl (fun _=>?_))|(refine zAa xE (cf _ _) xP rfl (fun _=>?_)))|(refine zBy ?_;refine KJ_bsliceN (len:=2) (places:=[(0,3),(3,3)]) (base:=[.bool false,strV [],strV [],.bool false,strV [],strV []]) xV (by rfl) (by rfl) xW (by omega) rfl (fun gb=>?_))|(refine ek_build ?_;refine zAc (Ev_build xV xW) ?_)|(refine zBa ?_;refine zAc (Ev_neqI_q (q:=false) rfl rfl rfl) ?_)|refine xst ?_|(refine xsa ?_;intro _)|(refine xsb ?_ ?_ <;>intro _<;>try (exfalso;omega))|refine xsc ?_|fail)
 refine Hold.mk ?_
 obtain ⟨s,⟨x,hI,hd,hv,hu,hD⟩⟩:=y
 dsimp only
 have cx:=fun (gb:Nat)=>scommitX (W:=W) (F:=F) (s:=s) (n:=64) (m:=2) hE16 hE8 hN (by omega) (by omega) (by omega) x hI (zAg gb [.bool true,strV [97],strV [],.bool false,strV [99],strV []] 43) (some ⟨gb,0,none⟩) 2 fx2 (Lv.cells rfl) (by decide) (by decide) (by rw [fx_norm,fx_enc];omega) (by rw [fx_norm,fx_next,fx_size2];omega)
 have hcr:commR 64 fxR fx2=fxS:=by unfold commR;rw [if_pos fx_comm,fx_norm,fx_next]
 rw [fx_comm,hcr,f2l] at cx
 obtain ⟨xd,q,g,v,used,D,N,a,b⟩:=x
 dsimp only at hd hv
 subst hd hv
 have hT:=hI.tab
 dsimp only at hT
 have cv:=sver_ct (W:=W) (s:=s) (d:=xd) (q:=q) (n:=64) (2:Nat) (some ⟨g,0,none⟩) D.life false
 have cz:=ssizeL (W:=W) (s:=s) (d:=xd) (q:=q) (n:=64) (b:=b) (2:Nat) (some ⟨g,0,none⟩) D.life false hT (by rw [fx_size];omega)
 rw [fx_size] at cz
 have cr:=srows_ct (W:=W) (s:=s) (d:=xd) (q:=q) (n:=64) (b:=b) (2:Nat) (some ⟨g,0,none⟩) D.life false hT (by decide)
 have ce:=fun (xa:Option Addr) (xc gb:Nat)=>srows13_ct (W:=W) (ropP (xa,xc) fxR) (zAg gb [strV [97],strV [49],strV [98],strV [50]] 51) xa (some ⟨gb,0,none⟩) xc 2 fxR (Lv.own (e:=51) (c:=xc) rC_ok rfl) (Lv.cells rfl) (by decide)
 rw [hrl] at cr ce
 repeat' (first|(refine at_seq_region (id:=11) ?_;refine hold ?_)|(refine zAd ?_;first|(refine zAa xE (ce _ _ _) xP rfl (fun _=>?_))|(refine zAa xE cr xP rfl (fun x=>?_);obtain ⟨xa,xc⟩:=x)|(refine zAa xE cz xP rfl (fun _=>?_))|(refine zAa xE cv xP rfl (fun _=>?_)))|(refine zBy ?_;refine KJ_bsliceN (len:=2) (places:=[(0,2),(2,2)]) (base:=[strV [],strV [],strV [],strV []]) xV (by rfl) (by rfl) xW (by omega) rfl (fun gb=>?_))|(refine ek_build ?_;refine zAc (Ev_build xV xW) ?_)|(refine zBa ?_;refine zAc (Ev_neqI_q (q:=false) rfl rfl rfl) ?_)|refine xst ?_|(refine xsa ?_;intro _)|(refine xsb ?_ ?_ <;>intro _<;>try (exfalso;omega))|refine xsc ?_|fail)
 refine Hold.mk ?_
 repeat' (first|(refine at_seq_region (id:=12) ?_;refine hold ?_)|(refine zAd ?_;refine zAa xE (cx _) xP rfl (fun y=>?_))|(refine zBy ?_;refine KJ_bsliceN (len:=2) (places:=[(0,3),(3,3)]) (base:=[.bool false,strV [],strV [],.bool false,strV [],strV []]) xV (by rfl) (by rfl) xW (by omega) rfl (fun gb=>?_))|(refine ek_build ?_;refine zAc (Ev_build xV xW) ?_)|refine xst ?_|(refine xsa ?_;intro _)|(refine xsb ?_ ?_ <;>intro _<;>try (exfalso;omega))|refine xsc ?_|fail)
 refine Hold.mk ?_
 obtain ⟨y,hJ,hgo⟩:=y
 have h0:=hJ.rdy.slot0 (by omega) hJ.v1
 have hyn:=hJ.rdy.nn
 have hyo:y.D.off=false:=hJ.rdy.rest.calm.1
 have hyd:=hgo.d
 obtain ⟨yd,yq,yg,yv,yused,yD,yN,ya,yb⟩:=y
 dsimp only at h0 hyn hyo hyd ⊢
 subst hyd
 have hT2:=hJ.tab
 dsimp only at hT2
 have cg:=sget_ct (W:=W) (s:=s) (d:=yd) (q:=yq) (n:=64) (b:=yb) (yv:Nat) (some ⟨yg,0,none⟩) yD.life false hT2 [98]
 rw [fx_get] at cg
 have cz2:=ssizeL (W:=W) (s:=s) (d:=yd) (q:=yq) (n:=64) (b:=yb) (yv:Nat) (some ⟨yg,0,none⟩) yD.life false hT2 (by rw [fx_size2];omega)
 rw [fx_size2] at cz2
 have cF:=sformatX_ct (W:=W) (F:=F) (d:=yd) (D:=yD) hE16 hE8 hN (n:=64) (by omega) (by omega) hyn hyo h0 noP none 0 0
 refine KJ.noP ?_
 repeat' (first|(refine zAd ?_;first|(refine zAa xE c21 xP rfl (fun _=>?_))|(refine zAa xE cF xP rfl (fun _=>?_))|(refine zAa xE cz2 xP rfl (fun _=>?_))|(refine zAa xE cg xP rfl (fun _=>?_)))|(refine zBp ?_;first|refine zAc (Ev_eqlS_t rfl rfl rfl) ?_|refine zAc (zAt (q:=true) rfl rfl rfl) ?_)|refine xst ?_|(refine xsa ?_;intro _)|(refine xsb ?_ ?_ <;>intro _<;>try (exfalso;omega))|refine xsc ?_|fail)
 all_goals (exact xdn ())
end
end Go.Proofs.YtahgdagcnkpnbaaGreatDoor
