/-
  DeS, StWD, StF0, StL0, StR0, StR1, StP7, StM1.
-/
import Derived.Test.YtnkhohfbijkohaaGreatDoorTEE
import Derived.Test.YtnkhohfbijkohaaGreatDoorTEX
import Derived.Test.YtnkhohfbijkohaaGreatDoorTEN
import Derived.Test.YtnkhohfbijkohaaGreatDoorTFO
import Derived.Test.YtnkhohfbijkohaaGreatDoorTFF
import Derived.Test.YtnkhohfbijkohaaGreatDoorTFJ
import Derived.Test.YtnkhohfbijkohaaGreatDoorTFA
import Derived.Test.YtnkhohfbijkohaaGreatDoorTEU
set_option maxHeartbeats 64000000
namespace Go.Proofs.YtnkhohfbijkohaaGreatDoor
open Go Go.RowKit
abbrev plTGJ0:Pl:=(.op 0 (.op 1 (.op 2 (.op 3 (.op 4 (.op 8 (.ef 5 [8,0] (.op 6 (.op 7 (.ef 9 [] .nil))))))))))
abbrev plTGJ1:Pl:=(.op 0 (.op 1 (.op 2 (.op 3 (.op 4 (.op 5 (.op 6 (.op 7 (.op 8 (.op 9 (.op 10 (.op 11 (.op 12 (.op 13 (.op 14 (.op 15 (.op 16 (.op 17 (.op 18 (.op 19 (.ef 20 [] (.op 21 (.op 22 (.op 23 (.op 24 (.op 25 .nil))))))))))))))))))))))))))
abbrev plTGJ2:Pl:=(.op 0 (.op 1 (.op 2 (.op 3 (.op 4 (.op 5 (.op 6 (.op 7 (.op 8 (.op 9 (.op 10 (.op 11 (.op 12 (.op 13 (.op 14 (.ef 15 [] (.op 16 (.op 17 (.op 18 (.op 19 (.op 20 .nil)))))))))))))))))))))
abbrev plTGJ3:Pl:=(.op 0 (.op 1 (.op 2 (.op 3 (.op 5 (.op 8 (.ef 4 [8,5] (.ef 6 [8] (.op 7 (.ef 9 [] .nil))))))))))
abbrev plTGJ4:Pl:=(.op 0 (.ef 1 [0] (.ef 2 [] .nil)))
abbrev plTGJ5:Pl:=(.op 0 (.op 1 (.ef 2 [0] (.ef 3 [] (.ef 4 [] .nil)))))
abbrev plTGJ6:Pl:=(.op 0 (.op 1 (.op 2 (.op 3 (.op 4 (.op 5 (.op 6 (.op 7 (.op 8 .nil)))))))))
section
variable {P:Program} {W:World} {n:Nat} {E:Env} {H H' R:List SP} {q:QQ} {X:Type}
structure CtR (P:Program) (W:World) (f:FuncId) (args:List Value) (u u':FrameMode) (Hpre:List SP) {X:Type} (Hp:X→List SP):Prop where
 go:∀ R w,St W (Hpre++R) w→CallsDIn Fence.wide 0 P f args.toArray u w fun e m w'=>∃ x v,e=.returned v∧m=u'∧St W (Hp x++R) w'
theorem CtR.enter {f:FuncId} {args:List Value} {u u':FrameMode} {Hpre:List SP} {Hp:X→List SP} {fn:Func} {c:Code} (hf:P.funcs[f]? = some fn) (hb:fn.body=some c) (hn:fn.ntmps=n) (hk:args.length≤n)
 (h:∀ (R:List SP) (c₀:Frame) (cs:List Frame),c₀.mode=u→KS W n (c.wpSIn Fence.wide 0 P (bodyPostS P fn c₀ cs fun e m w'=>∃ x v,e=.returned v∧m=u'∧St W (Hp x++R) w')) (c₀::cs) (Env.ofArgs args 0) (Hpre++R)):CtR P W f args u u' Hpre Hp:=by
 refine ⟨fun R w s=>?_⟩
 refine callsDIn_of_wpSIn hf hb trivial fun c₀ cs hu=>(h R c₀ cs hu).go _ w ⟨?_,fun t v e=>?_⟩ s rfl
 ·simp [hn];omega
 ·obtain ⟨_,h2⟩:=Env.ofArgs_at args 0 t v e
  have hl:=(List.getElem?_eq_some_iff.1 h2).1
  simp only [Nat.sub_zero] at h2 hl
  show (args.toArray++_)[t]? = _
  rw [Array.getElem?_append_left (by simpa using hl)]
  simpa using h2
theorem KJ_doneR {f:Func} {c₀:Frame} {cs:List Frame} {u':FrameMode} {Hp:X→List SP} {ex:Exit} (x:X) (hex:ex=.ret∨ex=.normal) (hr:f.results=#[]) (hE:∀ g,zBg H g→zBg (Hp x++R) g) :
 KJ W n (liftK (fun _=>[]) (.ex (.top fun e a w=>bodyPostS P f c₀ cs (fun e m w'=>∃ x v,e=.returned v∧m=u'∧St W (Hp x++R) w') e a ({ c₀ with mode:=u' }::cs) w) ex)) E H:=by
 refine ⟨fun a w p s=>?_⟩
 have h1:(results f a.tmps).run P w=.ok (.tuple #[]) w:=by
  simp [Go.results,hr]
 have h2:bodyPostS P f c₀ cs (fun e m w'=>∃ x v,e=.returned v∧m=u'∧St W (Hp x++R) w') .normal { a with defers:=[] } ({ c₀ with mode:=u' }::cs) w:=⟨rfl,u',rfl,_,h1,x,_,rfl,rfl,(s.left).mono hE⟩
 rcases hex with rfl|rfl
 ·exact h2
 ·exact h2
theorem leaves_fnR {fn:Func} {tmps:Array Value} {Rr:Ending→World→Prop} {d:Deferred} {ds:List Deferred} {u u':FrameMode} {w:World} {f:FuncId} {args:List Value} {Hpre R:List SP} {Hp:X→List SP} (cd:CtR P W f args u u' Hpre Hp) (hu:u≠.run) {fv:Fn} {cap:Array Value} (htar:d.target=.fn fv cap) (hinv:(invoke d.target d.args).run P w=.ok (.enter f args.toArray) w)
 (s:St W (Hpre++R) w) (h:∀ x w',St W (Hp x++R) w'→LeavesInM Fence.wide 0 P fn tmps Rr ds (settle u') w'):LeavesInM Fence.wide 0 P fn tmps Rr (d::ds) u w:=by
 refine ⟨hu,.inr ⟨fun e=>by simp [Fence.wide] at e,fv,cap,f,args.toArray,htar,hinv,fun _ _=>trivial,?_⟩⟩
 obtain ⟨hF,hc⟩:=cd.go R w s
 refine ⟨hF,fun c cs hm hr=>?_⟩
 obtain ⟨e,m,w',fr,⟨x,v,rfl,rfl,hS⟩,h1,h2,h3,h4⟩:=hc c cs hm hr
 exact ⟨_,_,w',fr,h x w' hS,h1,h2,h3,h4⟩
theorem KJ.liftCallPn {D:List Deferred→List Deferred} {ops:Array Oper} {l:List Oper} {d:Option Tmp} {ty:TypeId} {pos:String} {af:Array Edge} {f:FuncId} {xs:List Operand} {ts:Array TypeId} {vs:List Value} {Hpre:List SP} {r:X→Value} {Hp:X→List SP} (hro:q.ro=none) (hx:Evs E xs vs) [hf:FnIs P f] (hc:Pn P W f vs Hpre r Hp) (hp:Pick Hpre H R)
 (h:∀ c,KJ W n (liftK D (.ex q (.panic (pnc (r c))))) E (Hp c++R)):KJ W n (liftK D (.list P ops q (⟨d,.call { callee:=.value (.func f),args:=xs.toArray,argTypes:=ts },ty,pos,af,none⟩::l))) E H:=by
 refine ⟨fun a w p s=>?_⟩
 show wpListIn (fen q.ro) 0 P ops q.den (⟨d,.call { callee:=.value (.func f),args:=xs.toArray,argTypes:=ts },ty,pos,af,none⟩::l) { a with defers:=D a.defers } w
 refine wpListIn_step fun K hK=>?_
 rw [if_pos (by simp [Region.wanted])]
 refine ⟨fun _ _=>trivial,?_⟩
 have hs:(⟨d,.call { callee:=.value (.func f),args:=xs.toArray,argTypes:=ts },ty,pos,af,none⟩:Oper).semAt (fen q.ro).round ({ a with defers:=D a.defers }:Act).eval=execOp a.eval ⟨d,.call { callee:=.value (.func f),args:=xs.toArray,argTypes:=ts },ty,pos,af,none⟩:=by
  rw [show (fen q.ro).round=none from hro]
  rfl
 rw [hs,run_call (hf:=hf) rfl hx p w]
 refine ⟨fun e=>by simp at e,?_⟩
 have s2:St W (Hpre++(R++dm a.defers)) w:=by
  rw [← List.append_assoc]
  exact s.perm (hp.perm.append_right _)
 exact (callsIn_wide (n:=0)).2 ((hc.go _ w s2).mono fun e w' ⟨c,he,hS⟩=>by
  subst he
  exact (h c).go a w' p (by show St W ((Hp c++R)++dm a.defers) w';rw [List.append_assoc];exact hS))
theorem KJ.liftPnSeq {D:List Deferred→List Deferred} {ch:List PanicEntry} {y:Code} (h:KJ W n (liftK D (.ex q (.panic ch))) E H):KJ W n (liftK D (.ex (.seq P y q) (.panic ch))) E H:=⟨h.go⟩
theorem KJ.liftPnBlk {D:List Deferred→List Deferred} {ch:List PanicEntry} {id:Nat} (h:KJ W n (liftK D (.ex q (.panic ch))) E H):KJ W n (liftK D (.ex (.blk id q) (.panic ch))) E H:=⟨h.go⟩
theorem KJ.liftDonePn2 {f1 f2:FuncId} [FnIs P f1] [FnIs P f2] {cap1 a1 cap2 a2:Array Value} {v1 v2:List Value} {v:Value} {H1 H1' H2 H2' R1 R2:List SP} (hv1:a1++cap1=v1.toArray) (hv2:a2++cap2=v2.toArray) (c1:CtR P W f1 v1 .returning .returning H1 (fun _:Unit=>H1')) (c2:CtR P W f2 v2 (.panicking (pnc v)) (.panicking [{ v,recovered:=true }]) H2 (fun _:Unit=>H2')) (hp2:Pick H2 H R2) (hp1:Pick H1 (H2'++R2) R1)
 {r:X→Value} {Hp:X→List SP} {fn:Func} {rs:List ResultVar} {vs:List Value} (hr:fn.results=rs.toArray) (hv:Rvs P E (H1'++R1) rs vs) (c:X) (hc:tupleV vs=r c) (hE:∀ g,zBg (H1'++R1) g→zBg (Hp c++R) g) :
 KJ W n (liftK (fun l=>⟨.fn (.func f2) cap2,a2⟩::⟨.fn (.func f1) cap1,a1⟩::l) (.ex (.top (bodyPostM Fence.wide 0 P fn (Post W r Hp R))) (.panic (pnc v)))) E H:=by
 refine KJ.liftTop fun a w p s=>?_
 have fin:=leaves_marks (W:=W) (P:=P) (fn:=fn) (tmps:=a.tmps) (H:=H1'++R1) (R:=R) c hc hE (fun w s=>hv.results_run hr p s) a.defers
 have st1:∀ w,St W ((H2'++R2)++dm a.defers) w→LeavesInM Fence.wide 0 P fn a.tmps (Post W r Hp R) (⟨.fn (.func f1) cap1,a1⟩::a.defers) .returning w:=fun w s=>
  leaves_fnR c1 (by simp) rfl (by rw [← hv1];exact inv_fn cap1 a1 w) ((s.perm (hp1.perm.append_right _)).perm (by rw [List.append_assoc])) (fun x w' s'=>fin w' (by rw [List.append_assoc];exact s'))
 exact leaves_fnR c2 (by simp) rfl (by rw [← hv2];exact inv_fn cap2 a2 w) ((s.perm (hp2.perm.append_right _)).perm (by rw [List.append_assoc])) (fun x w' s'=>st1 w' (by rw [List.append_assoc];exact s'))
theorem Ev_tassert {x:Operand} {xt t:TypeId} {v:Value} {d:TypeDesc} (hx:Env.ev E x=some (.iface t v)) (hu:P.underlying t=some d) (hd:∀ m,d≠.interface m):Ev P W n E H (.typeAssert x xt t true) (.tuple #[v,.bool true]):=
 Ev.mk fun o ho a w p _=>by
  have e:(Instr.typeAssert (.iface t v) xt t true).run P w=.ok (.tuple #[v,.bool true]) w:=by
   unfold Instr.typeAssert
   cases d <;> simp_all [run_underlying hu]
  simp [execOp,ho,p.ev hx,e]
end
end Go.Proofs.YtnkhohfbijkohaaGreatDoor
namespace Go.Proofs.YtnkhohfbijkohaaGreatDoor
open Go Go.RowKit
abbrev brk (F:Nat→Addr) (e:Nat):Value:=.iface 236 (.agg #[errV F e])
section
variable {W:World} {F:Nat→Addr} {q s d n g:Nat} {D:Dsk}
theorem must_pn (e:Nat) (he:e≠0):Pn Tryz.prog W 172 [errV F e] [] (fun _:Unit=>brk F e) (fun _=>[]):=by
 obtain ⟨ea,hea⟩:=errV_ne (E:=F) he
 unfold brk
 rw [hea]
 refine Pn.enter Tryz.func172 rfl Tryz.ntmps172 (by simp) (fun R=>?_)
 repeat' (first|((refine KJ_panic rfl rfl ?_))|((refine KJ.pnSeq ?_))|((refine KJ.pnThn ?_))|((refine KJ.pnBlk ?_))|(refine ek_build ?_;refine zAc (Ev_build xV xW) ?_)|refine xst ?_|(refine xsa ?_;intro _)|(refine xsb ?_ ?_ <;>intro _<;>try (exfalso;omega))|refine xsc ?_|fail)
 all_goals exact KJ_donePn () rfl (xN)
theorem sload_pn (hE8:ErrsOn L8 W F) (hN:NibAt W) (h2:n≤65536) (life:Int) (hn:D.n=n) (e:Nat) (he:slotE D 0=e) (hne:e≠0) :
 Pn Tryz.prog W 104 [.pointer (some ⟨s,0,none⟩)] [stP s d q n 0 none life false,DiskP d D] (fun _:Unit=>brk F e) (fun _=>[stP s d q n 0 none life false,DiskP d D]):=by
 have cr:Ct Tryz.prog W 45 [.pointer (some ⟨d,0,none⟩),.int .i64 0] [DiskP d D] (fun _:Unit=>.tuple #[strV (slotS D 0),.int .i64 (slotN D 0),errV F e]) (fun _=>[DiskP d D]):=by
  have:=sread_ct (W:=W) (p:=d) (D:=D) hE8 hN (by omega) 0
  rw [he] at this
  exact this
 have cm:=must_pn (W:=W) (F:=F) e hne
 refine Pn.enter Tryz.func104 rfl Tryz.ntmps104 (by simp) (fun R=>?_)
 repeat' (first|((refine KJ_callPn rfl xE cm xP (fun _=>?_)))|((refine KJ.pnSeq ?_))|((refine KJ.pnThn ?_))|((refine KJ.pnBlk ?_))|(refine zAd ?_;refine zAa xE cr xP rfl (fun _=>?_))|refine xst ?_|(refine xsa ?_;intro _)|(refine xsb ?_ ?_ <;>intro _<;>try (exfalso;omega))|refine xsc ?_|(refine zAb (id:=8) plTGJ0 (by kernel_rfl) (by kernel_rfl) ?_)|(refine zAb (id:=9) plTGJ1 (by kernel_rfl) (by kernel_rfl) ?_)|(refine zAb (id:=12) plTGJ2 (by kernel_rfl) (by kernel_rfl) ?_)|(refine zAb (id:=21) plTGJ3 (by kernel_rfl) (by kernel_rfl) ?_)|refine zAn ?_ ?_|refine zAm rfl rfl rfl rfl rfl ?_ ?_|refine zAf ?_ ?_|exact Rech.nil|fail)
 all_goals exact KJ_donePn () rfl (xN)
theorem caught_pn (g e:Nat) (he:e≠0):CtR Tryz.prog W 103 [.pointer (some ⟨g,0,none⟩)] (.panicking (pnc (brk F e))) (.panicking [{ v:=brk F e,recovered:=true }]) [zAq g [.nilIface] 26] (fun _:Unit=>[zAq g [errV F e] 26]):=by
 obtain ⟨ea,hea⟩:=errV_ne (E:=F) he
 unfold brk
 rw [hea]
 refine CtR.enter Tryz.func103 rfl Tryz.ntmps103 (by simp) (fun R c₀ cs hu=>?_)
 refine KS_seq ?_
 refine KS_region ?_
 refine KS_recoverSome (i:=0) (rest:=[]) (v:=.iface 236 (.agg #[.iface 357 (.pointer (some ea))])) (cs':={ c₀ with mode:=.panicking [{ v:=.iface 236 (.agg #[.iface 357 (.pointer (some ea))]),recovered:=true }] }::cs) rfl (by simp [recoverD,hu]) rfl ?_
 refine KS_nil ?_
 refine KS_then ?_
 refine KS_rest ?_
 repeat' (first|(refine KJ.liftStp (by constructor) ?_)|(refine KJ.liftCondT rfl ?_)|(refine KJ.liftCondF rfl ?_)|(refine KJ.liftOper ?_)|(refine zAc (Ev_tassert rfl Tryz.underlying236 (by intro m h;cases h)) ?_)|(refine zBf ?_;refine zBb rfl (fun g3=>?_))|refine xst ?_|(refine xsa ?_;intro _)|(refine xsb ?_ ?_ <;>intro _<;>try (exfalso;omega))|refine xsc ?_|fail)
 all_goals exact KJ_doneR () (by first|exact Or.inl rfl|exact Or.inr rfl) rfl (xN)
theorem open1_err (ge gs x e:Nat) (he:e≠0):CtR Tryz.prog W 102 [.pointer (some ⟨ge,0,none⟩),.pointer (some ⟨gs,0,none⟩)] .returning .returning [zAq ge [errV F e] 26,zAq gs [.pointer (some ⟨x,0,none⟩)] 38] (fun _:Unit=>[zAq ge [errV F e] 26,zAq gs [.pointer none] 38]):=by
 have hne:=errNe (F:=F) he
 refine CtR.enter Tryz.func102 rfl Tryz.ntmps102 (by simp) (fun R c₀ cs hu=>?_)
 have hc:(c₀::cs)={ c₀ with mode:=.returning }::cs:=by rw [← hu]
 rw [hc]
 refine KS_rest ?_
 repeat' (first|(refine KJ.liftStp (by constructor) ?_)|(refine KJ.liftCondT rfl ?_)|(refine KJ.liftCondF rfl ?_)|(refine KJ.liftOper ?_)|(refine zBh ?_;refine zAc (Ev_neqNil rfl hne) ?_)|refine xst ?_|(refine xsa ?_;intro _)|(refine xsb ?_ ?_ <;>intro _<;>try (exfalso;omega))|refine xsc ?_|fail)
 all_goals exact KJ_doneR () (by first|exact Or.inl rfl|exact Or.inr rfl) rfl (xN)
set_option maxRecDepth 100000 in
theorem sopenE_ct (hE8:ErrsOn L8 W F) (hN:NibAt W) (h1:64≤n) (h2:n≤65536) (hn:D.n=n) (ho:D.off=false) (e:Nat) (he:slotE D 0=e) (hne:e≠0) :
 Ct Tryz.prog W 37 [.pointer (some ⟨d,0,none⟩)] [DiskP d D] (fun _:Unit=>.tuple #[.pointer none,errV F e]) (fun _=>[DiskP d D]):=by
 have csz:Ct Tryz.prog W 43 [.pointer (some ⟨d,0,none⟩)] [DiskP d D] (fun _:Unit=>.int .i64 (n:Nat)) (fun _=>[DiskP d D]):=by
  have:=size_ct (W:=W) (p:=d) (D:=D)
  rw [hn] at this
  exact this
 have cof:Ct Tryz.prog W 44 [.pointer (some ⟨d,0,none⟩)] [DiskP d D] (fun _:Unit=>.bool false) (fun _=>[DiskP d D]):=by
  have:=off_ct (W:=W) (p:=d) (D:=D)
  rw [ho] at this
  exact this
 have cov:=over_ct (W:=W) (d:=d) (D:=D) h1 h2 hn
 have clo:=fun s q=>sload_pn (W:=W) (F:=F) (s:=s) (d:=d) (q:=q) (D:=D) hE8 hN h2 D.life hn e he hne
 have q1:decide ((n:Int)<64)=false:=decide_eq_false (by omega)
 refine Ct.enter Tryz.func37 rfl Tryz.ntmps37 (by simp) (fun R=>?_)
 refine KJ.lift0 ?_
 repeat' (first|(refine KJ.liftCallPn rfl xE (clo _ _) xP (fun _=>?_))|(refine KJ.liftPnSeq ?_)|(refine KJ.liftPnBlk ?_)|(refine KJ.liftDeferF rfl (Evs.cons (v:=.pointer (some ⟨_,0,none⟩)) rfl Evs.nil) ?_)|(refine KJ.liftDeferV rfl rfl xE ?_)|(refine KJ.liftStp (by constructor) ?_)|(refine KJ.liftCondT rfl ?_)|(refine KJ.liftCondF rfl ?_)|(refine KJ.liftOper ?_)|(refine zBf ?_;first|(refine zBb (d:=3) rfl (fun ge=>?_))|(refine zBb (d:=2) rfl (fun gs=>?_)))|(refine zAd ?_;first|(refine zAa xE cov xP rfl (fun x=>?_);obtain ⟨s,q⟩:=x)|(refine zAa xE cof xP rfl (fun _=>?_))|(refine zAa xE csz xP rfl (fun _=>?_)))|(refine ek_mkFunc ?_;refine zAc (Ev_mkFunc2 rfl rfl) ?_)|(refine zAs ?_;refine zAc (zAe rfl rfl q1) ?_)|refine xst ?_|(refine xsa ?_;intro _)|(refine xsb ?_ ?_ <;>intro _<;>try (exfalso;omega))|refine xsc ?_|(refine zAb (id:=2) plTGJ4 (by kernel_rfl) (by kernel_rfl) ?_)|(refine KJ.liftDraws (id:=2) plTGJ4 (by kernel_rfl) (by kernel_rfl) ?_)|(refine zAb (id:=4) plTGJ4 (by kernel_rfl) (by kernel_rfl) ?_)|(refine KJ.liftDraws (id:=4) plTGJ4 (by kernel_rfl) (by kernel_rfl) ?_)|(refine zAb (id:=9) plTGJ5 (by kernel_rfl) (by kernel_rfl) ?_)|(refine KJ.liftDraws (id:=9) plTGJ5 (by kernel_rfl) (by kernel_rfl) ?_)|refine zAn ?_ ?_|refine zAm rfl rfl rfl rfl rfl ?_ ?_|refine zAf ?_ ?_|exact Rech.nil|fail)
 all_goals exact KJ.liftDonePn2 (v1:=[.pointer (some ⟨ge,0,none⟩),.pointer (some ⟨gs,0,none⟩)]) (v2:=[.pointer (some ⟨ge,0,none⟩)]) rfl rfl (open1_err ge gs s e hne) (caught_pn ge e hne) xP xP rfl (Rvs.cell rfl inferInstance xS rfl (Rvs.cell rfl inferInstance xS rfl Rvs.nil)) () (by rfl) (xN)
end
end Go.Proofs.YtnkhohfbijkohaaGreatDoor
namespace Go.Proofs.YtnkhohfbijkohaaGreatDoor
open Go Go.RowKit
def fx1:List BOp:=[⟨false,[98],[50]⟩,⟨false,[97],[49]⟩]
def fxR:Rows:=[([97],[49]),([98],[50])]
def fx2:List BOp:=[⟨true,[97],[]⟩,⟨false,[99],[]⟩]
def fxS:Rows:=[([98],[50]),([99],[])]
theorem fx_rows:zAu [] fx1=fxR:=by decide
theorem fx_ris:RisR fxR:=by rw [← fx_rows];exact applyB_ris List.Pairwise.nil _
theorem fx_size:(zAj fxR).length=9:=by decide
theorem fx_norm:zAr fx2=fx2:=by decide
theorem fx_next:zAu fxR fx2=fxS:=by decide
theorem fx_size2:(zAj fxS).length=8:=by decide
theorem fx_get:lk fxS [98]=some [50]:=by decide
theorem fx_enc:(zAx fx2).length=8:=by decide
theorem fx_comm:commE 64 fxR fx2=0:=by decide
end Go.Proofs.YtnkhohfbijkohaaGreatDoor
namespace Go.Proofs.YtnkhohfbijkohaaGreatDoor
open Go Go.RowKit
abbrev ropP (x:Option Addr × Nat) (l:Rows):SP:=lsP rC 96 2 (.slice x.1 l.length x.2) l
section
variable {W:World} {F:Nat→Addr} {N:List Nd} {a:Option Addr} {r:Rows} {s d q n:Nat} {b:Int}
instance fn_same13:FnIs Tryz.prog 12:=⟨by kernel_rfl⟩
instance fn_fixed13:FnIs Tryz.prog 7:=⟨by kernel_rfl⟩
instance fn_sver:FnIs Tryz.prog 14:=⟨by kernel_rfl⟩
instance fn_ssizeL:FnIs Tryz.prog 38:=⟨by kernel_rfl⟩
theorem srows13_ct (A B:SP) (a b:Option Addr) (c d:Nat) (l:Rows) (hA:Lv W rC 2 A a l) (hB:Lv W rC 2 B b l) (h1:l.length≤4611686018427387904) :
 Ct Tryz.prog W 12 [.slice a l.length c,.slice b l.length d] [A,B] (fun _:Unit=>.bool true) (fun _=>[A,B]):=by
 have q:((l.length:Nat):Int)=(l.length:Nat):=rfl
 refine Ct.enter Tryz.func12 rfl Tryz.ntmps12 (by simp) (fun R=>?_)
 repeat' (first|(refine zBh ?_;refine zAc (zCb rfl rfl q) ?_)|refine xst ?_|(refine xsa ?_;intro _)|(refine xsb ?_ ?_ <;>intro _<;>try (exfalso;omega))|refine xsc ?_|(refine zAb (id:=6) plTGJ6 (by kernel_rfl) (by kernel_rfl) ?_)|refine zAn ?_ ?_|refine zAm rfl rfl rfl rfl rfl ?_ ?_|refine zAf ?_ ?_|exact Rech.nil|fail)
 refine zBz (fun i:{i:Nat//i≤l.length}=>[(0,.slice a l.length c),(1,.slice b l.length d),(12,.int .i64 (l.length:Nat)),(13,.int .i64 (i.1:Nat))])
  (fun _=>[A,B]++R) (fun i=>l.length-i.1) ⟨0,Nat.zero_le _⟩ xB (xN) (fun ⟨i,hi⟩=>?_)
 dsimp only
 by_cases hlt:i<l.length
 rotate_left
 ·have ql:decide ((i:Int)<(l.length:Nat))=false:=decide_eq_false (by omega)
  repeat' (first|(refine zAs ?_;refine zAc (zAe rfl rfl ql) ?_)|refine xst ?_|(refine xsa ?_;intro _)|(refine xsb ?_ ?_ <;>intro _<;>try (exfalso;omega))|refine xsc ?_|(refine zAb (id:=6) plTGJ6 (by kernel_rfl) (by kernel_rfl) ?_)|refine zAn ?_ ?_|refine zAm rfl rfl rfl rfl rfl ?_ ?_|refine zAf ?_ ?_|exact Rech.nil|fail)
  all_goals (exact xdn ())
 have ql:decide ((i:Int)<(l.length:Nat))=true:=decide_eq_true (by omega)
 obtain ⟨x,hx⟩:∃ s,l[i]? = some s:=⟨_,List.getElem?_eq_getElem hlt⟩
 refine KJ.lvSome hA xS (by omega) (fun ba oa hab=>?_)
 subst hab
 refine KJ.lvSome hB xS (by omega) (fun bb ob hab=>?_)
 subst hab
 have ho1:oa+Int.toNat (i:Int)*2=oa+i*2:=by rw [Int.toNat_natCast]
 have ho2:ob+Int.toNat (i:Int)*2=ob+i*2:=by rw [Int.toNat_natCast]
 have hq:(!decide (x=x))=false:=by simp
 repeat' (first|(refine zAh ?_;first|refine zAc (zCc rC_ok hA rfl rfl xS ho1 hx) ?_|refine zAc (zCc rC_ok hB rfl rfl xS ho2 hx) ?_)|(refine zBk ?_;refine zAc (zAi (r:=((i+1:Nat):Int)) rfl rfl (by omega) (by omega)) ?_)|(refine zBh ?_;refine zAc (Ev_neqSt rfl rfl (row14_eqF x x Tryz.underlying96) hq) ?_)|(refine zAs ?_;refine zAc (zAe rfl rfl ql) ?_)|refine xst ?_|(refine xsa ?_;intro _)|(refine xsb ?_ ?_ <;>intro _<;>try (exfalso;omega))|refine xsc ?_|(refine zAb (id:=6) plTGJ6 (by kernel_rfl) (by kernel_rfl) ?_)|refine zAn ?_ ?_|refine zAm rfl rfl rfl rfl rfl ?_ ?_|refine zAf ?_ ?_|exact Rech.nil|fail)
 all_goals refine zBd ⟨i+1,hlt⟩ (by show l.length-(i+1)<l.length-i;omega) xB (xN)
theorem sver_ct (v:Int) (lg:Option Addr) (life:Int) (dead:Bool):Ct Tryz.prog W 14 [.pointer (some ⟨s,0,none⟩)] [stP s d q n v lg life dead] (fun _:Unit=>.int .i64 v) (fun _=>[stP s d q n v lg life dead]):=by
 refine Ct.enter Tryz.func14 rfl Tryz.ntmps14 (by simp) (fun R=>?_)
 repeat' (first|refine xst ?_|(refine xsa ?_;intro _)|(refine xsb ?_ ?_ <;>intro _<;>try (exfalso;omega))|refine xsc ?_|fail)
 all_goals (exact xdn ())
theorem ssizeL (v:Int) (lg:Option Addr) (life:Int) (dead:Bool) (hT:TbOk N a r) (hs:(zAj r).length≤4611686018427387904):Ct Tryz.prog W 38 [.pointer (some ⟨s,0,none⟩)] [stP s d q n v lg life dead,tbP q a b,arP N] (fun _:Unit=>.int .i64 ((zAj r).length:Nat)) (fun _=>[stP s d q n v lg life dead,tbP q a b,arP N]):=by
 have cs:=ssize_ct (W:=W) (N:=N) (p:=q) (b:=b) hT hs
 refine Ct.enter Tryz.func38 rfl Tryz.ntmps38 (by simp) (fun R=>?_)
 repeat' (first|(refine zAd ?_;refine zAa xE cs xP rfl (fun _=>?_))|refine xst ?_|(refine xsa ?_;intro _)|(refine xsb ?_ ?_ <;>intro _<;>try (exfalso;omega))|refine xsc ?_|fail)
 all_goals (exact xdn ())
theorem blank_slot (n:Nat) (h1:64≤n) (h2:n≤65536):slotE (Dsk.blank n) 0=14:=by
 have hb:=blank_rest n (by omega) h2
 obtain ⟨t1,t2,t3⟩:=Holds.told hb (a:=0) (by show 0+2≤n;omega) (Holds.blank n 0 (by omega))
 rw [if_pos rfl] at t1
 exact t1
theorem fixed13_ct (hE:ErrsAt W F) (hN:NibAt W) (hg:gB≤W.heap.size):Ct Tryz.prog W 7 [] [] (fun _:Unit=>.bool true) (fun _=>[]):=by
 have hE16:ErrsOn L16 W F:=hE.to16
 have hE8:ErrsOn L8 W F:=hE16.to8
 have hA64:layA 64=20:=by decide
 have hsn:(zAj fxR).length≤234*layA 64:=by rw [fx_size,hA64];omega
 have cn:Ct Tryz.prog W 20 [.int .i64 64] [] (fun p:Nat=>.tuple #[.pointer (some ⟨p,0,none⟩),.nilIface]) (fun p=>[DiskP p (Dsk.blank 64)]):=new_ct 64 (by omega) (by omega) hg
 have cb:=fun d=>sopenE_ct (W:=W) (F:=F) (d:=d) (D:=Dsk.blank 64) (n:=64) hE8 hN (by omega) (by omega) rfl rfl 14 (blank_slot 64 (by omega) (by omega)) (by omega)
 have cf:=fun (d gb:Nat)=>snewF_ct (W:=W) (F:=F) (d:=d) hE16 hE8 hN (n:=64) (by omega) (by omega) (zAq gb [.bool false,strV [98],strV [50],.bool false,strV [97],strV [49]] 73) (some ⟨gb,0,none⟩) 2 fx1 (Lv.cells rfl) (by decide) fx_rows hsn
 have co:=fun d=>snewX_ct (W:=W) (F:=F) (d:=d) hE16 hE8 hN (n:=64) (by omega) (by omega) fx_ris hsn
 have c14:=numA_ct hE hg 14 (by omega)
 have c21:=numA_ct hE hg 21 (by omega)
 have f1l:fx1.length=2:=rfl
 have f2l:fx2.length=2:=rfl
 have hrl:fxR.length=2:=rfl
 rw [f1l] at cf
 refine Ct.enter Tryz.func7 rfl Tryz.ntmps7 (by simp) (fun R=>?_)
 repeat' (first|(refine at_seq_region (id:=5) ?_;refine hold ?_)|(refine zAd ?_;first|(refine zAa xE (cb _) xP rfl (fun _=>?_))|(refine zAa xE cn xP rfl (fun d=>?_)))|refine xst ?_|(refine xsa ?_;intro _)|(refine xsb ?_ ?_ <;>intro _<;>try (exfalso;omega))|refine xsc ?_|fail)
 refine Hold.mk ?_
 repeat' (first|(refine at_seq_region (id:=9) ?_;refine hold ?_)|(refine zAd ?_;first|(refine zAa xE (co _) xP rfl (fun y=>?_))|(refine zAa xE c14 xP rfl (fun _=>?_))|(refine zAa xE (cf _ _) xP rfl (fun _=>?_)))|(refine zCi ?_;refine KJ_bsliceN (len:=2) (places:=[(0,3),(3,3)]) (base:=[.bool false,strV [],strV [],.bool false,strV [],strV []]) xV (by rfl) (by rfl) xW (by omega) rfl (fun gb=>?_))|(refine ek_build ?_;refine zAc (Ev_build xV xW) ?_)|(refine zBh ?_;refine zAc (Ev_neqI_q (q:=false) rfl rfl rfl) ?_)|refine xst ?_|(refine xsa ?_;intro _)|(refine xsb ?_ ?_ <;>intro _<;>try (exfalso;omega))|refine xsc ?_|fail)
 refine Hold.mk ?_
 obtain ⟨s,⟨x,hI,hd,hv,hu,hD⟩⟩:=y
 dsimp only
 have cx:=fun (gb:Nat)=>scommitX (W:=W) (F:=F) (s:=s) (n:=64) (m:=2) hE16 hE8 hN (by omega) (by omega) (by omega) x hI (zAq gb [.bool true,strV [97],strV [],.bool false,strV [99],strV []] 73) (some ⟨gb,0,none⟩) 2 fx2 (Lv.cells rfl) (by decide) (by decide) (by rw [fx_norm,fx_enc];omega) (by rw [fx_norm,fx_next,fx_size2];omega)
 have hcr:commR 64 fxR fx2=fxS:=by unfold commR;rw [if_pos fx_comm,fx_norm,fx_next]
 rw [fx_comm,hcr,f2l] at cx
 obtain ⟨xd,q,g,v,used,D,N,a,b⟩:=x
 dsimp only at hd hv
 subst hd hv
 have hT:=hI.tab
 dsimp only at hT
 have cv:=sver_ct (W:=W) (s:=s) (d:=xd) (q:=q) (n:=64) (2:Nat) (some ⟨g,0,none⟩) D.life false
 have cz:=ssizeL (W:=W) (s:=s) (d:=xd) (q:=q) (n:=64) (b:=b) (2:Nat) (some ⟨g,0,none⟩) D.life false hT (by rw [fx_size];omega)
 rw [fx_size] at cz
 have cr:=srows_ct (W:=W) (s:=s) (d:=xd) (q:=q) (n:=64) (b:=b) (2:Nat) (some ⟨g,0,none⟩) D.life false hT (by decide)
 have ce:=fun (xa:Option Addr) (xc gb:Nat)=>srows13_ct (W:=W) (ropP (xa,xc) fxR) (zAq gb [strV [97],strV [49],strV [98],strV [50]] 96) xa (some ⟨gb,0,none⟩) xc 2 fxR (Lv.own (e:=96) (c:=xc) rC_ok rfl) (Lv.cells rfl) (by decide)
 rw [hrl] at cr ce
 repeat' (first|(refine at_seq_region (id:=11) ?_;refine hold ?_)|(refine zAd ?_;first|(refine zAa xE (ce _ _ _) xP rfl (fun _=>?_))|(refine zAa xE cr xP rfl (fun x=>?_);obtain ⟨xa,xc⟩:=x)|(refine zAa xE cz xP rfl (fun _=>?_))|(refine zAa xE cv xP rfl (fun _=>?_)))|(refine zCi ?_;refine KJ_bsliceN (len:=2) (places:=[(0,2),(2,2)]) (base:=[strV [],strV [],strV [],strV []]) xV (by rfl) (by rfl) xW (by omega) rfl (fun gb=>?_))|(refine ek_build ?_;refine zAc (Ev_build xV xW) ?_)|(refine zBh ?_;refine zAc (Ev_neqI_q (q:=false) rfl rfl rfl) ?_)|refine xst ?_|(refine xsa ?_;intro _)|(refine xsb ?_ ?_ <;>intro _<;>try (exfalso;omega))|refine xsc ?_|fail)
 refine Hold.mk ?_
 repeat' (first|(refine at_seq_region (id:=12) ?_;refine hold ?_)|(refine zAd ?_;refine zAa xE (cx _) xP rfl (fun y=>?_))|(refine zCi ?_;refine KJ_bsliceN (len:=2) (places:=[(0,3),(3,3)]) (base:=[.bool false,strV [],strV [],.bool false,strV [],strV []]) xV (by rfl) (by rfl) xW (by omega) rfl (fun gb=>?_))|(refine ek_build ?_;refine zAc (Ev_build xV xW) ?_)|refine xst ?_|(refine xsa ?_;intro _)|(refine xsb ?_ ?_ <;>intro _<;>try (exfalso;omega))|refine xsc ?_|fail)
 refine Hold.mk ?_
 obtain ⟨y,hJ,hgo⟩:=y
 have h0:=hJ.rdy.slot0 (by omega) hJ.v1
 have hyn:=hJ.rdy.nn
 have hyo:y.D.off=false:=hJ.rdy.rest.calm.1
 have hyd:=hgo.d
 obtain ⟨yd,yq,yg,yv,yused,yD,yN,ya,yb⟩:=y
 dsimp only at h0 hyn hyo hyd ⊢
 subst hyd
 have hT2:=hJ.tab
 dsimp only at hT2
 have cg:=sget_ct (W:=W) (s:=s) (d:=yd) (q:=yq) (n:=64) (b:=yb) (yv:Nat) (some ⟨yg,0,none⟩) yD.life false hT2 [98]
 rw [fx_get] at cg
 have cz2:=ssizeL (W:=W) (s:=s) (d:=yd) (q:=yq) (n:=64) (b:=yb) (yv:Nat) (some ⟨yg,0,none⟩) yD.life false hT2 (by rw [fx_size2];omega)
 rw [fx_size2] at cz2
 have cF:=sformatX_ct (W:=W) (F:=F) (d:=yd) (D:=yD) hE16 hE8 hN (n:=64) (by omega) (by omega) hyn hyo h0 noP none 0 0
 refine KJ.noP ?_
 repeat' (first|(refine zAd ?_;first|(refine zAa xE c21 xP rfl (fun _=>?_))|(refine zAa xE cF xP rfl (fun _=>?_))|(refine zAa xE cz2 xP rfl (fun _=>?_))|(refine zAa xE cg xP rfl (fun _=>?_)))|(refine zBe ?_;first|refine zAc (Ev_eqlS_t rfl rfl rfl) ?_|refine zAc (zAk (q:=true) rfl rfl rfl) ?_)|refine xst ?_|(refine xsa ?_;intro _)|(refine xsb ?_ ?_ <;>intro _<;>try (exfalso;omega))|refine xsc ?_|fail)
 all_goals (exact xdn ())
end
end Go.Proofs.YtnkhohfbijkohaaGreatDoor
namespace Go.Proofs.YtnkhohfbijkohaaGreatDoor
open Go Go.RowKit
theorem sumW_max {γ:Type} {w:γ→Nat} {c:Nat} {l:List γ} (h:∀ x ∈ l,w x≤c):sumW w l≤l.length*c:=by
 induction l with
 |nil=>simp [sumW]
 |cons y l ih=>
  rw [sumW_cons,List.length_cons,Nat.succ_mul]
  have h1:=h y (List.mem_cons_self ..)
  have h2:=ih fun x hx=>h x (List.mem_cons_of_mem _ hx)
  omega
structure OpsFit (ops:List BOp):Prop where
 len:ops.length≤1048576
 each:∀ o ∈ ops,o.key.length≤1048576∧o.val.length≤1048576
theorem opW_le (o:BOp):opW o≤o.key.length+o.val.length+21:=by
 have h1:=vu_len o.key.length
 have h2:=vu_len o.val.length
 unfold opW encOp tx
 split
 ·rw [List.length_cons,List.length_append];omega
 ·rw [List.length_cons,List.length_append,List.length_append,List.length_append];omega
theorem OpsFit.sum {ops:List BOp} (h:OpsFit ops):sumW opW ops≤2300000000000:=by
 have h1:sumW opW ops≤ops.length*2097173:=sumW_max fun o ho=>by
  have:=opW_le o
  have:=h.each o ho
  omega
 have h2:=h.len
 omega
theorem OpsFit.enc {ops:List BOp} (h:OpsFit ops):(zAx (zAr ops)).length≤100000000000000:=by
 have h1:=enc_sum (zAr ops)
 have h2:=sum_norm ops
 have h3:=h.sum
 have h4:=vu_len (zAr ops).length
 omega
theorem OpsFit.snap {ops:List BOp} (h:OpsFit ops) {r:Rows} (hr:RisR r) (hs:(zAj r).length≤1000000000000):(zAj (zAu r ops)).length≤4611686018427387904:=by
 have h1:=snap_sum (zAu r ops)
 have h2:=sum_applyB hr ops
 have h3:=h.sum
 have h4:=vu_len (zAu r ops).length
 have h5:=snap_sum r
 omega
theorem OpsFit.nil:OpsFit []:=⟨Nat.zero_le _,fun _ h=>by cases h⟩
theorem rows_room {r:Rows} {n:Nat} (h:(zAj r).length≤234*layA n) (h2:n≤65536):r.length≤10000000∧(zAj r).length≤10000000:=by
 have h1:=rows_snap r
 have h3:(zAj r).length=(vu r.length).length+(r.flatMap rowB).length:=by unfold zAj;rw [List.length_append]
 have h4:layA n≤32768:=by unfold layA;omega
 omega
end Go.Proofs.YtnkhohfbijkohaaGreatDoor
namespace Go.Proofs.YtnkhohfbijkohaaGreatDoor
open Go Go.RowKit
abbrev copP (x:Option Addr × Nat) (l:List BOp):SP:=lsP opC 73 3 (.slice x.1 l.length x.2) l
abbrev OL:=Option Addr × Nat × List BOp
def opsC (x:OL):List Value:=[.slice x.1 x.2.2.length x.2.1]
theorem opsC_ok:EncOk opsC 1:=⟨fun _=>rfl,fun x=>by unfold opsC;exact xO,by omega⟩
theorem Ev_sub13 {P:Program} {W:World} {n:Nat} {E:Env} {H:List SP} {t u:TypeId} {x y:Operand} {i j r:Int} (hx:Env.ev E x=some (.int .i64 i)) (hy:Env.ev E y=some (.int .i64 j)) (h:Go.RowKit.wrap64 (i-j)=r):Ev P W n E H (.binOp .sub t x y u) (.int .i64 r):=by
 subst h
 have e:IntKind.i64.wrap (i-j)=Go.RowKit.wrap64 (i-j):=by rw [IntKind.wrap_i64];unfold Go.RowKit.wrap64;rfl
 rw [← e]
 exact Ev_sub hx hy
section
variable {W:World} {F:Nat→Addr} {s d q n:Nat} {r:Rows} {N:List Nd} {a:Option Addr} {b:Int}
instance fn_copied13:FnIs Tryz.prog 16:=⟨by kernel_rfl⟩
theorem copied13_ct (A:SP) (a:Option Addr) (c:Nat) (l:List BOp) (hL:Lv W opC 3 A a l) (hl:l.length≤2000000) :
 Ct Tryz.prog W 16 [.slice a l.length c] [A] (fun x:Option Addr × Nat=>.slice x.1 l.length x.2) (fun x=>[A,copP x l]):=by
 have b1:(([]:List BOp).length+l.length)*40≤140737488355328:=by simp;omega
 have b2:([]:List BOp).length+l.length≤9223372036854775807:=by simp;omega
 refine Ct.enter Tryz.func16 rfl Tryz.ntmps16 (by simp) (fun R=>?_)
 refine KJ.lvOpen hL xS (fun b0 o0 hab=>?_)
 repeat' (first|(refine is_append ?_;refine KJ_appAll (l:=([]:List BOp)) (l2:=l) enc_op rfl rfl rfl rfl xS (Src.lv hL hab xS) b1 b2 rfl (fun a1 c1=>?_))|(refine zCi ?_;refine KJ_bslice0 rfl (fun g0=>?_))|refine xst ?_|(refine xsa ?_;intro _)|(refine xsb ?_ ?_ <;>intro _<;>try (exfalso;omega))|refine xsc ?_|fail)
 all_goals (obtain ⟨L2,hL2⟩:∃ L2,L2=([]++l:List BOp):=⟨_,rfl⟩)
 all_goals (simp only [List.nil_append,List.length_nil,Nat.zero_add] at *)
 all_goals (exact xdn (a1,c1))
end
end Go.Proofs.YtnkhohfbijkohaaGreatDoor
namespace Go.Proofs.YtnkhohfbijkohaaGreatDoor
open Go Go.RowKit
def pRow (k v:List UInt8) (done:Bool) (p:List UInt8 × List UInt8):Rows:=(if done=false∧Op.bytesLess k p.1=true then [(k,v)] else [])++(if p.1=k then [] else [p])
def pDone (k:List UInt8) (done:Bool) (p:List UInt8 × List UInt8):Bool:=done || Op.bytesLess k p.1
def pGo (k v:List UInt8):Bool→Rows→Rows
 |true,[]=>[]
 |false,[]=>[(k,v)]
 |done,p::r=>pRow k v done p++pGo k v (pDone k done p) r
theorem pGo_cons (k v:List UInt8) (done:Bool) (p:List UInt8 × List UInt8) (r:Rows):pGo k v done (p::r)=pRow k v done p++pGo k v (pDone k done p) r:=by cases done <;> rfl
theorem pGo_true (k v:List UInt8):∀ r:Rows,pGo k v true r=mdel r k
 |[]=>rfl
 |p::r=>by
  rw [pGo_cons]
  have e:pDone k true p=true:=rfl
  rw [e,pGo_true k v r]
  unfold pRow mdel
  rw [if_neg (by simp),List.filter_cons]
  by_cases h:p.1=k <;> simp [h]
theorem pGo_put (k v:List UInt8):∀ {r:Rows},RisR r→pGo k v false r=putR r k v
 |[],_=>rfl
 |p::r,h=>by
  rw [pGo_cons]
  have hr:RisR r:=(List.pairwise_cons.1 h).2
  have hp:∀ q ∈ r,Op.bytesLess p.1 q.1=true:=(List.pairwise_cons.1 h).1
  have e:pDone k false p=Op.bytesLess k p.1:=rfl
  rw [e]
  unfold pRow
  cases hc:Op.bytesLess k p.1 with
  |true=>
   have hne:p.1≠k:=fun e=>by rw [e,tl_irr] at hc;cases hc
   rw [if_pos ⟨rfl,rfl⟩,if_neg hne,pGo_true,mdel_none (lk_below fun q hq=>tl_tr hc (hp q hq))]
   exact (putR_l (A:=[]) (B:=r) v h hc).symm
  |false=>
   rw [if_neg (by simp),List.nil_append]
   by_cases hne:p.1=k
   ·rw [if_pos hne,List.nil_append,pGo_put k v hr]
    obtain ⟨p1,p2⟩:=p
    dsimp only at hne hp
    subst hne
    have e1:=putR_m (A:=[]) (B:=r) (k:=p1) (u:=p2) v h
    rw [List.nil_append,List.nil_append] at e1
    rw [e1]
    cases r with
    |nil=>rfl
    |cons q r=>exact putR_l (A:=[]) (B:=r) v hr (hp q (List.mem_cons_self ..))
   ·rw [if_neg hne,pGo_put k v hr]
    exact (putR_r (A:=[]) (B:=r) v h (tl_not hc fun e=>hne e.symm)).symm
theorem pGo_apply {r:Rows} (h:RisR r) (o:BOp):pGo o.key o.val o.del r=apply1 r o:=by
 unfold apply1
 cases o.del with
 |true=>rw [pGo_true];rfl
 |false=>rw [pGo_put _ _ h];rfl
theorem pGo_next {r:Rows} {i:Nat} {p:List UInt8 × List UInt8} (h:r[i]? = some p) (k v:List UInt8) (done:Bool) (out:Rows):out++pGo k v done (r.drop i)=(out++pRow k v done p)++pGo k v (pDone k done p) (r.drop (i+1)):=by
 have hi:=(List.getElem?_eq_some_iff.1 h).1
 have he:=(List.getElem?_eq_some_iff.1 h).2
 rw [List.drop_eq_getElem_cons hi,he,pGo_cons,List.append_assoc]
end Go.Proofs.YtnkhohfbijkohaaGreatDoor
namespace Go.Proofs.YtnkhohfbijkohaaGreatDoor
open Go Go.RowKit
theorem pGo_len (k v:List UInt8):∀ (r:Rows) (done:Bool),(pGo k v done r).length≤r.length+(if done=true then 0 else 1)
 |[],true=>by simp [pGo]
 |[],false=>by simp [pGo]
 |p::r,done=>by
  rw [pGo_cons,List.length_append,List.length_cons]
  have h1:=pGo_len k v r (pDone k done p)
  have h2:(pRow k v done p).length≤(if done=false∧Op.bytesLess k p.1=true then 1 else 0)+1:=by
   unfold pRow
   rw [List.length_append]
   have a1:(if done=false∧Op.bytesLess k p.1=true then [(k,v)] else []).length=if done=false∧Op.bytesLess k p.1=true then 1 else 0:=by split <;> rfl
   have a2:(if p.1=k then ([]:Rows) else [p]).length≤1:=by split <;> simp
   omega
  unfold pDone at h1 ⊢
  cases done <;> cases hc:Op.bytesLess k p.1 <;> simp [hc] at h1 h2 ⊢ <;> omega
section
variable {W:World} {F:Nat→Addr}
instance fn_put13:FnIs Tryz.prog 58:=⟨by kernel_rfl⟩
instance fn_behind13:FnIs Tryz.prog 21:=⟨by kernel_rfl⟩
theorem put13_ct (A:SP) (a:Option Addr) (c:Nat) (r:Rows) (o:BOp) (hL:Lv W rC 2 A a r) (h1:r.length≤1000000000) :
 Ct Tryz.prog W 58 [.slice a r.length c,.agg (opC o).toArray] [A] (fun x:Option Addr × Nat=>.slice x.1 (pGo o.key o.val o.del r).length x.2) (fun x=>[A,ropP x (pGo o.key o.val o.del r)]):=by
 obtain ⟨del,k,v⟩:=o
 dsimp only
 have hpl:=pGo_len k v r del
 obtain ⟨Z,hZ⟩:∃ Z,Z=pGo k v del r:=⟨_,rfl⟩
 rw [← hZ] at hpl ⊢
 have hZl:Z.length≤r.length+1:=by
  refine Nat.le_trans hpl ?_
  split <;> omega
 refine Ct.enter Tryz.func58 rfl Tryz.ntmps58 (by simp) (fun R=>?_)
 refine KJ.nilrow 96 2 ?_
 repeat' (first|(refine is_box ?_;refine KJ_box rfl xF rfl (fun g3=>?_))|refine xst ?_|(refine xsa ?_;intro _)|(refine xsb ?_ ?_ <;>intro _<;>try (exfalso;omega))|refine xsc ?_|fail)
 refine zBz (fun x:{x:Nat × Bool × Rows × Option Addr × Nat//x.1≤r.length∧x.2.2.1++pGo k v x.2.1 (r.drop x.1)=Z}=>[(3,.pointer (some ⟨g3,0,none⟩)),(5,.slice x.1.2.2.2.1 x.1.2.2.1.length x.1.2.2.2.2),(6,.bool x.1.2.1),(11,.slice a r.length c),(12,.int .i64 (r.length:Nat)),(13,.int .i64 (x.1.1:Nat))])
  (fun x=>[A,zAq g3 (opC ⟨del,k,v⟩) 73,lsP rC 96 2 (.slice x.1.2.2.2.1 x.1.2.2.1.length x.1.2.2.2.2) x.1.2.2.1]++R) (fun x=>r.length-x.1.1) ⟨(0,del,[],none,0),Nat.zero_le _,by rw [List.drop_zero,hZ];rfl⟩ xB (xN) (fun ⟨(i,done,out,xa,xc),hi,hinv⟩=>?_)
 dsimp only at hi hinv ⊢
 have hol:out.length≤Z.length:=by rw [← hinv,List.length_append];omega
 have m1:(out.length+1)*32≤140737488355328:=by omega
 have m2:out.length+1≤9223372036854775807:=by omega
 by_cases hlt:i<r.length
 ·have ql:decide ((i:Int)<(r.length:Nat))=true:=decide_eq_true (by omega)
  obtain ⟨p,hp⟩:∃ s,r[i]? = some s:=⟨_,List.getElem?_eq_getElem hlt⟩
  refine KJ.lvSome hL xS (by omega) (fun ba oa hab=>?_)
  subst hab
  have ho1:oa+Int.toNat (i:Int)*2=oa+i*2:=by rw [Int.toNat_natCast]
  rw [pGo_next hp] at hinv
  by_cases hins:done=false∧Op.bytesLess k p.1=true
  ·obtain ⟨hd,hk⟩:=hins
   subst hd
   have hne:p.1≠k:=fun e=>by rw [e,tl_irr] at hk;cases hk
   have e1:pRow k v false p=[(k,v)]++[p]:=by unfold pRow;rw [if_pos ⟨rfl,hk⟩,if_neg hne]
   have e2:pDone k false p=true:=hk
   rw [e1,e2,← List.append_assoc] at hinv
   have hl2:(out++[(k,v)]).length=out.length+1:=by simp
   have m3:((out++[(k,v)]).length+1)*32≤140737488355328:=by omega
   have m4:(out++[(k,v)]).length+1≤9223372036854775807:=by omega
   repeat' (first|(refine zBf ?_;refine zBb rfl (fun g8=>?_))|(refine is_append ?_;first|(refine KJ_appOne (l:=out++[(k,v)]) (a:=p) rC_ok rfl rfl rfl xS xS m3 m4 rfl (fun g' c'=>?_))|(refine KJ_appOne (l:=out) (a:=(k,v)) rC_ok rfl rfl rfl xS xS m1 m2 rfl (fun g' c'=>?_)))|(refine zCi ?_;refine KJ_bslice1 rfl xF (by rfl) (by omega) rfl (fun gb=>?_))|(refine zAh ?_;refine zAc (zCc rC_ok hL rfl rfl xS ho1 hp) ?_)|(refine ek_build ?_;refine zAc (Ev_build xV xW) ?_)|(refine zBk ?_;refine zAc (zAi (r:=((i+1:Nat):Int)) rfl rfl (by omega) (by omega)) ?_)|(refine zBh ?_;refine zAc (Ev_neqS_t rfl rfl hne) ?_)|(refine zAs ?_;first|refine zAc (Ev_lssS_q rfl rfl hk) ?_|refine zAc (zAe rfl rfl ql) ?_)|refine xst ?_|(refine xsa ?_;intro _)|(refine xsb ?_ ?_ <;>intro _<;>try (exfalso;omega))|refine xsc ?_|fail)
   all_goals refine zBd ⟨(i+1,true,out++[(k,v)]++[p],_,_),hlt,hinv⟩ (by show r.length-(i+1)<r.length-i;omega) xB (xN)
  ·have e1:pRow k v done p=(if p.1=k then [] else [p]):=by unfold pRow;rw [if_neg hins];rfl
   have e2:pDone k done p=done:=by
    unfold pDone
    cases done with
    |true=>rfl
    |false=>
     cases hk:Op.bytesLess k p.1 with
     |false=>rfl
     |true=>exact absurd ⟨rfl,hk⟩ hins
   rw [e1,e2] at hinv
   by_cases hkk:p.1=k
   ·rw [if_pos hkk,List.append_nil] at hinv
    cases done with
    |true=>
     repeat' (first|(refine zBf ?_;refine zBb rfl (fun g8=>?_))|(refine zAh ?_;refine zAc (zCc rC_ok hL rfl rfl xS ho1 hp) ?_)|(refine zBk ?_;refine zAc (zAi (r:=((i+1:Nat):Int)) rfl rfl (by omega) (by omega)) ?_)|(refine zBh ?_;refine zAc (Ev_neqS_f rfl rfl hkk) ?_)|(refine zAs ?_;refine zAc (zAe rfl rfl ql) ?_)|refine xst ?_|(refine xsa ?_;intro _)|(refine xsb ?_ ?_ <;>intro _<;>try (exfalso;omega))|refine xsc ?_|fail)
     all_goals refine zBd ⟨(i+1,true,out,xa,xc),hlt,hinv⟩ (by show r.length-(i+1)<r.length-i;omega) xB (xN)
    |false=>
     have hk:Op.bytesLess k p.1=false:=by rw [hkk];exact tl_irr k
     repeat' (first|(refine zBf ?_;refine zBb rfl (fun g8=>?_))|(refine zAh ?_;refine zAc (zCc rC_ok hL rfl rfl xS ho1 hp) ?_)|(refine zBk ?_;refine zAc (zAi (r:=((i+1:Nat):Int)) rfl rfl (by omega) (by omega)) ?_)|(refine zBh ?_;refine zAc (Ev_neqS_f rfl rfl hkk) ?_)|(refine zAs ?_;first|refine zAc (Ev_lssS_q rfl rfl hk) ?_|refine zAc (zAe rfl rfl ql) ?_)|refine xst ?_|(refine xsa ?_;intro _)|(refine xsb ?_ ?_ <;>intro _<;>try (exfalso;omega))|refine xsc ?_|fail)
     all_goals refine zBd ⟨(i+1,false,out,xa,xc),hlt,hinv⟩ (by show r.length-(i+1)<r.length-i;omega) xB (xN)
   ·rw [if_neg hkk] at hinv
    cases done with
    |true=>
     repeat' (first|(refine zBf ?_;refine zBb rfl (fun g8=>?_))|(refine is_append ?_;refine KJ_appOne (l:=out) (a:=p) rC_ok rfl rfl rfl xS xS m1 m2 rfl (fun g' c'=>?_))|(refine zCi ?_;refine KJ_bslice1 rfl xF (by rfl) (by omega) rfl (fun gb=>?_))|(refine zAh ?_;refine zAc (zCc rC_ok hL rfl rfl xS ho1 hp) ?_)|(refine zBk ?_;refine zAc (zAi (r:=((i+1:Nat):Int)) rfl rfl (by omega) (by omega)) ?_)|(refine zBh ?_;refine zAc (Ev_neqS_t rfl rfl hkk) ?_)|(refine zAs ?_;refine zAc (zAe rfl rfl ql) ?_)|refine xst ?_|(refine xsa ?_;intro _)|(refine xsb ?_ ?_ <;>intro _<;>try (exfalso;omega))|refine xsc ?_|fail)
     all_goals refine zBd ⟨(i+1,true,out++[p],_,_),hlt,hinv⟩ (by show r.length-(i+1)<r.length-i;omega) xB (xN)
    |false=>
     have hk:Op.bytesLess k p.1=false:=by
      cases hk:Op.bytesLess k p.1 with
      |false=>rfl
      |true=>exact absurd ⟨rfl,hk⟩ hins
     repeat' (first|(refine zBf ?_;refine zBb rfl (fun g8=>?_))|(refine is_append ?_;refine KJ_appOne (l:=out) (a:=p) rC_ok rfl rfl rfl xS xS m1 m2 rfl (fun g' c'=>?_))|(refine zCi ?_;refine KJ_bslice1 rfl xF (by rfl) (by omega) rfl (fun gb=>?_))|(refine zAh ?_;refine zAc (zCc rC_ok hL rfl rfl xS ho1 hp) ?_)|(refine zBk ?_;refine zAc (zAi (r:=((i+1:Nat):Int)) rfl rfl (by omega) (by omega)) ?_)|(refine zBh ?_;refine zAc (Ev_neqS_t rfl rfl hkk) ?_)|(refine zAs ?_;first|refine zAc (Ev_lssS_q rfl rfl hk) ?_|refine zAc (zAe rfl rfl ql) ?_)|refine xst ?_|(refine xsa ?_;intro _)|(refine xsb ?_ ?_ <;>intro _<;>try (exfalso;omega))|refine xsc ?_|fail)
     all_goals refine zBd ⟨(i+1,false,out++[p],_,_),hlt,hinv⟩ (by show r.length-(i+1)<r.length-i;omega) xB (xN)
 have ql:decide ((i:Int)<(r.length:Nat))=false:=decide_eq_false (by omega)
 rw [List.drop_of_length_le (by omega)] at hinv
 cases done with
 |true=>
  rw [show pGo k v true []=[] from rfl,List.append_nil] at hinv
  subst hinv
  repeat' (first|(refine zAs ?_;refine zAc (zAe rfl rfl ql) ?_)|refine xst ?_|(refine xsa ?_;intro _)|(refine xsb ?_ ?_ <;>intro _<;>try (exfalso;omega))|refine xsc ?_|fail)
  all_goals (exact xdn (xa,xc))
 |false=>
  rw [show pGo k v false []=[(k,v)] from rfl] at hinv
  subst hinv
  repeat' (first|(refine is_append ?_;refine KJ_appOne (l:=out) (a:=(k,v)) rC_ok rfl rfl rfl xS xS m1 m2 rfl (fun g' c'=>?_))|(refine zCi ?_;refine KJ_bslice1 rfl xF (by rfl) (by omega) rfl (fun gb=>?_))|(refine ek_build ?_;refine zAc (Ev_build xV xW) ?_)|(refine zAs ?_;refine zAc (zAe rfl rfl ql) ?_)|refine xst ?_|(refine xsa ?_;intro _)|(refine xsb ?_ ?_ <;>intro _<;>try (exfalso;omega))|refine xsc ?_|fail)
  all_goals (exact xdn (some ⟨g',0,none⟩,c'))
theorem take_apply {r:Rows} {ops:List BOp} {i:Nat} {o:BOp} (h:ops[i]? = some o):zAu r (ops.take (i+1))=apply1 (zAu r (ops.take i)) o:=by
 rw [List.take_add_one,h]
 unfold zAu
 rw [List.foldl_append]
 rfl
theorem behind13_ct (A B:SP) (a b:Option Addr) (c d:Nat) (r:Rows) (ops:List BOp) (hA:Lv W rC 2 A a r) (hB:Lv W opC 3 B b ops) (hr:RisR r) (h1:r.length≤100000000) (h2:ops.length≤100000000) :
 Ct Tryz.prog W 21 [.slice a r.length c,.slice b ops.length d] [A,B] (fun x:Option Addr × Nat=>.slice x.1 (zAu r ops).length x.2) (fun x=>[A,B,ropP x (zAu r ops)]):=by
 have b1:(([]:Rows).length+r.length)*32≤140737488355328:=by simp;omega
 have b2:([]:Rows).length+r.length≤9223372036854775807:=by simp;omega
 refine Ct.enter Tryz.func21 rfl Tryz.ntmps21 (by simp) (fun R=>?_)
 refine KJ.lvOpen hA xS (fun b0 o0 hab=>?_)
 repeat' (first|(refine is_append ?_;refine KJ_appAll (l:=([]:Rows)) (l2:=r) rC_ok rfl rfl rfl rfl xS (Src.lv hA hab xS) b1 b2 rfl (fun a1 c1=>?_))|(refine zCi ?_;refine KJ_bslice0 rfl (fun g0=>?_))|refine xst ?_|(refine xsa ?_;intro _)|(refine xsb ?_ ?_ <;>intro _<;>try (exfalso;omega))|refine xsc ?_|fail)
 all_goals simp only [List.nil_append]
 refine zBz (fun x:{x:Nat × Rows × Option Addr × Nat//x.1≤ops.length∧x.2.1=zAu r (ops.take x.1)}=>[(5,.slice x.1.2.2.1 x.1.2.1.length x.1.2.2.2),(11,.slice b ops.length d),(12,.int .i64 (ops.length:Nat)),(13,.int .i64 (x.1.1:Nat))])
  (fun x=>[A,B,lsP rC 96 2 (.slice x.1.2.2.1 x.1.2.1.length x.1.2.2.2) x.1.2.1]++R) (fun x=>ops.length-x.1.1) ⟨(0,r,a1,c1),Nat.zero_le _,rfl⟩ xB (xN) (fun ⟨(i,q,xa,xc),hi,hq⟩=>?_)
 dsimp only at hi hq ⊢
 by_cases hlt:i<ops.length
 ·have ql:decide ((i:Int)<(ops.length:Nat))=true:=decide_eq_true (by omega)
  obtain ⟨o,ho⟩:∃ s,ops[i]? = some s:=⟨_,List.getElem?_eq_getElem hlt⟩
  refine KJ.lvSome hB xS (by omega) (fun ba oa hab=>?_)
  subst hab
  have ho1:oa+Int.toNat (i:Int)*3=oa+i*3:=by rw [Int.toNat_natCast]
  have hqr:RisR q:=by rw [hq];exact applyB_ris hr _
  have hql:q.length≤200000000:=by
   have e1:=applyB_len (ops.take i) r
   have e2:(ops.take i).length≤i:=List.length_take_le ..
   rw [← hq] at e1
   omega
  have cp:=put13_ct (W:=W) (lsP rC 96 2 (.slice xa q.length xc) q) xa xc q o (Lv.own rC_ok rfl) (by omega)
  have hnx:pGo o.key o.val o.del q=zAu r (ops.take (i+1)):=by rw [pGo_apply hqr,take_apply ho,hq]
  rw [hnx] at cp
  repeat' (first|(refine zBf ?_;refine zBb rfl (fun g8=>?_))|(refine zAd ?_;refine zAa xE cp xP rfl (fun y=>?_);obtain ⟨ya,yc⟩:=y)|(refine zAh ?_;refine zAc (zCc enc_op hB rfl rfl xS ho1 ho) ?_)|(refine zBk ?_;refine zAc (zAi (r:=((i+1:Nat):Int)) rfl rfl (by omega) (by omega)) ?_)|(refine zAs ?_;refine zAc (zAe rfl rfl ql) ?_)|refine xst ?_|(refine xsa ?_;intro _)|(refine xsb ?_ ?_ <;>intro _<;>try (exfalso;omega))|refine xsc ?_|fail)
  all_goals refine zBd ⟨(i+1,zAu r (ops.take (i+1)),ya,yc),hlt,rfl⟩ (by show ops.length-(i+1)<ops.length-i;omega) xB (xN)
 have ql:decide ((i:Int)<(ops.length:Nat))=false:=decide_eq_false (by omega)
 obtain rfl:i=ops.length:=by omega
 rw [List.take_length] at hq
 subst hq
 repeat' (first|(refine zAs ?_;refine zAc (zAe rfl rfl ql) ?_)|refine xst ?_|(refine xsa ?_;intro _)|(refine xsb ?_ ?_ <;>intro _<;>try (exfalso;omega))|refine xsc ?_|fail)
 all_goals (exact xdn (xa,xc))
end
end Go.Proofs.YtnkhohfbijkohaaGreatDoor
