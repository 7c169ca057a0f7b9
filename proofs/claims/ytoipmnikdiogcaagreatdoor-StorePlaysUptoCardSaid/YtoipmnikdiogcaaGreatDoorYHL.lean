/-
  StY4, StV4, StV5.
-/
import Derived.Test.YtoipmnikdiogcaaGreatDoorYHI
import Derived.Test.YtoipmnikdiogcaaGreatDoorYHE
set_option maxRecDepth 100000
set_option maxHeartbeats 64000000
namespace Go.Proofs.YtoipmnikdiogcaaGreatDoor
open Go Go.RowKit
open Go.Proofs.Tryz
abbrev yFR:Pl:=(.op 0 (.ef 1 [0] (.ef 2 [] .nil)))
abbrev yL4:Pl:=(.op 0 (.op 1 (.ef 2 [0] (.ef 3 [] (.ef 4 [] .nil)))))
abbrev zTHL0:List (Nat×Pl):=[(2,yFR),(4,yFR),(9,yL4)]
abbrev xCb:Pl:=(po [0,1,2,3,4,5,6,7,8] (.ef 9 [4,3,2,1,0] (.op 10 (.op 11 .nil))))
abbrev xCc:Pl:=(po [0,1,2,3,4,5,6,7,8,9,10,11,12,13,14,15,16,17,18,19] (.ef 20 [] (po [21,22,23,24,25,26,27,28] (.ef 29 [27,26,25,24,23] (.ef 30 [] (.op 31 (.op 32 .nil)))))))
abbrev xCd:Pl:=(po [0,1,2,3,4,5,6,7,8,9,10,11,12,13,14] (.ef 15 [] (po [16,17,18,19,20] .nil)))
section
variable {P:Program} {W:World} {n:Nat} {E:Env} {H R:List SP}
theorem KJ.liftDone2R {f1 f2:FuncId} [FnIs P f1] [FnIs P f2] {bG a1 cC a2:Array Value} {v1 v2:List Value} {H1 H1' H2 R1 R2:List SP} (eA:a1++bG=v1.toArray) (fA:a2++cC=v2.toArray) (c1:CtD P W f1 v1 .returning H1 (fun _:Unit=>H1')) (c2:CtD P W f2 v2 .returning H2 (fun _:Unit=>H2)) (jm:Pick H1 H R1) (iO:Pick H2 H R2) {X:Type} {r:X→Value} {Hp:X→List SP} {fn:Func} {rs:List ResultVar} {vs:List Value} {ex:Exit} (hex:ex=.ret∨ex=.normal) (hr:fn.results=rs.toArray) (hv:Rvs P E (H1'++R1) rs vs) (c:X) (hc:yI5 vs=r c) (hE:∀ g,yAH (H1'++R1) g→yAH (Hp c++R) g) :KJ W n (yC3 (fun l=>⟨.fn (.func f2) cC,a2⟩::⟨.fn (.func f1) bG,a1⟩::l) (.ex (.top (bodyPostM Fence.wide 0 P fn (yRM W r Hp R))) ex)) E H:=by
 refine KJ.liftTop fun a w p s=>?_;have cX:=yEB (W:=W) (P:=P) (fn:=fn) (tmps:=a.tmps) (R:=R) c hc hE (fun w s=>hv.results_run hr p s) a.defers;have st1:∀ w,St W (H++dm a.defers) w→LeavesInM Fence.wide 0 P fn a.tmps (yRM W r Hp R) (⟨.fn (.func f1) bG,a1⟩::a.defers) .returning w:=fun w s=>
  yIa c1 zW rfl (by rw [← eA];exact yLT bG a1 w) ((s.perm (jm.perm.append_right _)).perm (by rw [zLd])) (fun x w' s'=>cX w' (s'.perm (by rw [zLd])))
 have st2:LeavesInM Fence.wide 0 P fn a.tmps (yRM W r Hp R) (⟨.fn (.func f2) cC,a2⟩::⟨.fn (.func f1) bG,a1⟩::a.defers) .returning w:=
  yIa c2 zW rfl (by rw [← fA];exact yLT cC a2 w) ((s.perm (iO.perm.append_right _)).perm (by rw [zLd])) (fun x w' s'=>st1 w' (s'.perm ((show (H2++(R2++dm a.defers)).Perm ((H2++R2)++dm a.defers) by rw [zLd]).trans (iO.perm.symm.append_right _))))
 rcases hex with rfl|rfl
 ·exact st2
 ·exact st2
end
section
variable {W:World} {F:Nat→Addr} {q s d n g:Nat} {D:Dsk} {r:Rows}
theorem yS5 (ge gs x e:Nat) (he:e≠0):CtD prog W 47 [zPp ge,zPp gs] .returning [yAj ge [yAy F e] 27,yAj gs [zPp x] 34] (fun _:Unit=>[yAj ge [yAy F e] 27,yAj gs [.pointer none] 34]):=by
 have ao:=yH7 (F:=F) he;refine CtD.enter func47 rfl ntmps47 zW (fun R c₀ cs hu=>?_);refine yKI ?_;repeat' (first|refine KJ.liftStp (by constructor) ?_|refine KJ.liftCondT rfl ?_|refine KJ.liftCondF rfl ?_|refine KJ.liftOper ?_|refine xqa ?_|refine xsf ?_ ?_|intro _)
 all_goals exact yM9 () hu zor rfl (xN)
theorem yV3 (hE:ErrsOn L16 W F) (ay:ErrsOn L8 W F) (hN:NibAt W) (h1:64≤n) (h2:n≤65536) (hr:RisR r) (bH:(yAk r).length≤234*yAA n) (v:Nat) (hv:1≤v∧v+1≤1099511627776) (hR:Still D) (hn:D.n=n) (hG:yBA D 0=0∧yB6 D 0=v∧yBT D 0=yBJ n (yAk r).length∧yCd D (yAG n v) (yAA n) v (yAk r).length=(yAk r,0)) (ab:List zB) (g0:yHb D (yAN n:Nat) (yA7 n:Nat) v ((((yA7 n:Nat):Int).toNat)+1) 0 []=ab) (di:∀ x ∈ ab,(yAV x).2=0∧x.length≤4398046511104) (aO:∀ i x,ab[i]? = some x→(lgR r ab i).length+(yAV x).1.length≤144115188075855872) (fM:ab.length≤4611686018427387904) {D2:Dsk} (rr:Rows) (jZ:lgR r ab ab.length=rr) (jf:(yAk rr).length≤234*yAA n) (dR:∀ (s q:Nat) (N:List Nd) (a:Option Addr) (b:Int),TbOk N a rr→Ct prog W 51 [zPp s] [stP s d q n (v:Nat) none D.life false,DiskP d D,tbP q a b,arP N] (fun _:Nat=>.nilIface) (fun g=>[stP s d q n ((v+1:Nat):Int) (zq g) D.life false,DiskP d D2,tbP q a b,arP N,yWv g d n (v+1) D2.life])) :Ct prog W 13 [zPp d] [DiskP d D] (fun x:Nat × (Nat × TbQ [] rr) × Nat=>.tuple #[.pointer (some ⟨x.1,0,none⟩),.nilIface]) (fun x=>[stP x.1 d x.2.1.1 n ((v+1:Nat):Int) (some ⟨x.2.2,0,none⟩) D.life false,DiskP d (D2),tbP x.2.1.1 x.2.1.2.1.2.1 x.2.1.2.1.2.2,arP x.2.1.2.1.1,yWv x.2.2 d n (v+1) D2.life]):=by
 have hA:=yBr (n:=n) zO;obtain ⟨f1,f2,f3,f4⟩:=yBf h1 0;have ho:=hR.on;have hu:=hR.und;have bj:CtU prog W 45 [zPp d] [DiskP d D] (zi (n:Nat)) [DiskP d D]:=by have:=yBM (W:=W) (p:=d) (D:=D);rw [hn] at this;exact this
 have gV:CtU prog W 46 [zPp d] [DiskP d D] (.bool false) [DiskP d D]:=by have:=yDy (W:=W) (p:=d) (D:=D);rw [ho] at this;exact this
 have cov:=yGm (W:=W) (d:=d) (D:=D) h1 zO hn;have ir:=fun s q=>yOw (W:=W) (s:=s) (d:=d) (q:=q) (D:=D) hE ay hN h1 h2 hr bH v ⟨hv.1,zO⟩ D.life hn ho hG ab g0 di aO fM (by rw [jZ];exact jf);rw [jZ] at ir;have eG:=dR;have q1:decide ((n:Int)<64)=false:=zZ zO;clear hG dR;refine zE func13 ntmps13 fun R=>?_;refine KJ.lift0 ?_;repeat' (first|refine KJ.liftDeferF rfl (Evs.cons (v:=(zPp _)) rfl Evs.nil) ?_|refine KJ.liftDeferV rfl rfl xE ?_|refine KJ.liftStp (by constructor) ?_|refine KJ.liftCondT rfl ?_|refine KJ.liftCondF rfl ?_|refine KJ.liftOper ?_|(refine yAw ?_;first|refine yAv (d:=3) rfl (fun ge=>?_)|refine yAv (d:=2) rfl (fun gs=>?_))|refine xca (eG _ _ _ _ _ hT) fun gj=>?_|refine xca (ir _ _) fun y=>?_;obtain ⟨q',⟨⟨N,a,b⟩,gN,hT⟩⟩:=y;dsimp only at gN hT ⊢|refine xca cov fun x=>?_;obtain ⟨s,q⟩:=x|refine yCL ?_;refine yAa (yCW rfl rfl) ?_|refine xqa ?_|refine xsf ?_ ?_|refine xdt zTHL0 ?_|refine KJ.liftDraws (id:=2) yFR zK zK ?_|refine KJ.liftDraws (id:=4) yFR zK zK ?_|refine KJ.liftDraws (id:=9) yL4 zK zK ?_|apply zN|intro _)
 all_goals exact KJ.liftDone2 (v1:=[zPp ge,zPp gs]) (v2:=[zPp ge]) rfl rfl (yQ8 ge gs) (yKJ ge) xP xP (.inl rfl) rfl (Rvs.cell rfl inferInstance xS rfl (Rvs.cell rfl inferInstance xS rfl Rvs.nil)) (s,(q',⟨(N,a,b),gN,hT⟩),gj) (by rfl) (xN)
end
theorem xAN (x:zB):yFi opW (yAV x).1≤x.length:=by
 rcases yJi x with ⟨_,h⟩|⟨n,t,os,h1,h2,h3⟩
 ·rw [h];exact zLA _
 ·rw [h3];have e1:=congrArg List.length (yHV h1).1;have e2:=congrArg List.length (yIO n h2).1;have e3:(yEt os).length=yFi opW os:=yKN yD7 os;simp only [zLa] at e1 e2;dsimp only;omega
theorem yRu {r0:Rows} (h:RisR r0) (ab:List zB):∀ i,RisR (lgR r0 ab i):=by
 intro i
 induction i with
 |zero=>exact h
 |succ i ih=>
  cases hx:ab[i]? with
  |none=>
   have e:lgR r0 ab (i+1)=lgR r0 ab i:=by unfold lgR;have:=List.getElem?_eq_none_iff.1 hx;rw [zLi zO,zLi zO]
   rw [e];exact ih
  |some x=>rw [yCH r0 hx];exact yDj ih _
theorem yQc {r0:Rows} (h:RisR r0) (ab:List zB) (ai:∀ x ∈ ab,x.length≤15269888) (fM:ab.length≤65537) (hr:(yAk r0).length≤15335424):(yAk (lgR r0 ab ab.length)).length≤4611686018427387904:=by
 have key:∀ i,i≤ab.length→yFi yOn (lgR r0 ab i)≤15335424+i*15269888:=by
  intro i
  induction i with
  |zero=>
   intro _;have:=yIe r0;show yFi yOn r0≤_;omega
  |succ i ih=>
   intro hi;obtain ⟨x,hx⟩:∃ x,ab[i]? = some x:=⟨_,zLb zO⟩;have h1:=yLV (yRu h ab i) (yAV x).1;have h2:=xAN x;have h3:=ai x (zLk hx);have h4:=ih zO;rw [yCH r0 hx,zLH];omega
 have h1:=key ab.length (Nat.le_refl _);have h2:=yIe (lgR r0 ab ab.length);have h3:=yCe (lgR r0 ab ab.length).length;have:ab.length*15269888≤65537*15269888:=zLt _ zO;omega
section
variable {W:World} {F:Nat→Addr} {q s d n g:Nat} {D:Dsk} {r:Rows}
theorem yGv (h1:64≤n) (h2:n≤65536) (hn:D.n=n) (ho:D.off=false) (e:Nat) (ao:e≠0) (ir:∀ s q,Pn prog W 50 [zPp s] [stP s d q n 0 none D.life false,DiskP d D] (fun _:Unit=>brk F e) (fun _=>[DiskP d D])) :CtU prog W 13 [zPp d] [DiskP d D] (.tuple #[.pointer none,yAy F e]) [DiskP d D]:=by
 have bj:CtU prog W 45 [zPp d] [DiskP d D] (zi (n:Nat)) [DiskP d D]:=by have:=yBM (W:=W) (p:=d) (D:=D);rw [hn] at this;exact this
 have gV:CtU prog W 46 [zPp d] [DiskP d D] (.bool false) [DiskP d D]:=by have:=yDy (W:=W) (p:=d) (D:=D);rw [ho] at this;exact this
 have cov:=yGm (W:=W) (d:=d) (D:=D) h1 h2 hn;have q1:decide ((n:Int)<64)=false:=zZ zO;refine zE func13 ntmps13 fun R=>?_;refine KJ.lift0 ?_;repeat' (first|refine KJ.liftCallPn rfl xE (ir _ _) xP (fun _=>?_)|refine KJ.liftPnSeq ?_|refine KJ.liftPnBlk ?_|refine KJ.liftDeferF rfl (Evs.cons (v:=(zPp _)) rfl Evs.nil) ?_|refine KJ.liftDeferV rfl rfl xE ?_|refine KJ.liftStp (by constructor) ?_|refine KJ.liftCondT rfl ?_|refine KJ.liftCondF rfl ?_|refine KJ.liftOper ?_|(refine yAw ?_;first|refine yAv (d:=3) rfl (fun ge=>?_)|refine yAv (d:=2) rfl (fun gs=>?_))|refine xca cov fun x=>?_;obtain ⟨s,q⟩:=x|refine yCL ?_;refine yAa (yCW rfl rfl) ?_|refine xqa ?_|refine xsf ?_ ?_|refine xdt zTHL0 ?_|refine KJ.liftDraws (id:=2) yFR zK zK ?_|refine KJ.liftDraws (id:=4) yFR zK zK ?_|refine KJ.liftDraws (id:=9) yL4 zK zK ?_|apply zN|intro _)
 all_goals exact KJ.liftDonePn2 (v1:=[zPp ge,zPp gs]) (v2:=[zPp ge]) rfl rfl (yOr ge gs s e ao) (yOq ge e ao) xP xP rfl (Rvs.cell rfl inferInstance xS rfl (Rvs.cell rfl inferInstance xS rfl Rvs.nil)) () (by rfl) (xN)
theorem yOF (e:Nat) (he:e≠0) (hE:ErrsOn L16 W F) (ay:ErrsOn L8 W F) (hN:NibAt W) (h1:64≤n) (h2:n≤65536) (hr:RisR r) (bH:(yAk r).length≤234*yAA n) (v:Nat) (hv:1≤v∧v≤1099511627776) (hR:Still D) (hn:D.n=n) (hG:yBA D 0=0∧yB6 D 0=v∧yBT D 0=yBJ n (yAk r).length∧yCd D (yAG n v) (yAA n) v (yAk r).length=(yAk r,0)) (ab:List zB) (g0:yHb D (yAN n:Nat) (yA7 n:Nat) v ((((yA7 n:Nat):Int).toNat)+1) 0 []=ab) (di:∀ x ∈ ab,(yAV x).2=0∧x.length≤4398046511104) (aO:∀ i x,ab[i]? = some x→(lgR r ab i).length+(yAV x).1.length≤144115188075855872) (fM:ab.length≤4611686018427387904) {D2:Dsk} (rr:Rows) (jZ:lgR r ab ab.length=rr) (jf:(yAk rr).length≤234*yAA n) (dR:∀ (s q:Nat) (N:List Nd) (a:Option Addr) (b:Int),TbOk N a rr→CtU prog W 51 [zPp s] [stP s d q n (v:Nat) none D.life false,DiskP d D,tbP q a b,arP N] (yAy F e) [DiskP d D2]) :CtU prog W 13 [zPp d] [DiskP d D] (.tuple #[.pointer none,yAy F e]) [DiskP d D2]:=by
 have hA:=yBr (n:=n) zO;obtain ⟨f1,f2,f3,f4⟩:=yBf h1 0;have ho:=hR.on;have hu:=hR.und;have bj:CtU prog W 45 [zPp d] [DiskP d D] (zi (n:Nat)) [DiskP d D]:=by have:=yBM (W:=W) (p:=d) (D:=D);rw [hn] at this;exact this
 have gV:CtU prog W 46 [zPp d] [DiskP d D] (.bool false) [DiskP d D]:=by have:=yDy (W:=W) (p:=d) (D:=D);rw [ho] at this;exact this
 have cov:=yGm (W:=W) (d:=d) (D:=D) h1 zO hn;have ir:=fun s q=>yOw (W:=W) (s:=s) (d:=d) (q:=q) (D:=D) hE ay hN h1 h2 hr bH v hv D.life hn ho hG ab g0 di aO fM (by rw [jZ];exact jf);rw [jZ] at ir;have bD:=fun ge gs s=>yS5 (W:=W) (F:=F) ge gs s e he;obtain ⟨ea,bT⟩:=yDf (E:=F) he;simp only [bT] at bD dR ⊢;have eG:=dR;have q1:decide ((n:Int)<64)=false:=zZ zO;clear hG dR;refine zE func13 ntmps13 fun R=>?_;refine KJ.lift0 ?_;repeat' (first|refine KJ.liftDeferF rfl (Evs.cons (v:=(zPp _)) rfl Evs.nil) ?_|refine KJ.liftDeferV rfl rfl xE ?_|refine KJ.liftStp (by constructor) ?_|refine KJ.liftCondT rfl ?_|refine KJ.liftCondF rfl ?_|refine KJ.liftOper ?_|(refine yAw ?_;first|refine yAv (d:=3) rfl (fun ge=>?_)|refine yAv (d:=2) rfl (fun gs=>?_))|refine xca (eG _ _ _ _ _ hT) fun _=>?_|refine xca (ir _ _) fun y=>?_;obtain ⟨q',⟨⟨N,a,b⟩,gN,hT⟩⟩:=y;dsimp only at gN hT ⊢|refine xca cov fun x=>?_;obtain ⟨s,q⟩:=x|refine yCL ?_;refine yAa (yCW rfl rfl) ?_|refine xqa ?_|refine xsf ?_ ?_|refine xdt zTHL0 ?_|refine KJ.liftDraws (id:=2) yFR zK zK ?_|refine KJ.liftDraws (id:=4) yFR zK zK ?_|refine KJ.liftDraws (id:=9) yL4 zK zK ?_|apply zN|intro _)
 all_goals exact KJ.liftDone2R (v1:=[zPp ge,zPp gs]) (v2:=[zPp ge]) rfl rfl (bD ge gs s) (yKJ ge) xP xP (.inl rfl) rfl (Rvs.cell rfl inferInstance xS rfl (Rvs.cell rfl inferInstance xS rfl Rvs.nil)) () (by rfl) (xN)
theorem yV4 (hE:ErrsAt W F) (hN:NibAt W) (h1:64≤n) (h2:n≤65536) (hn:D.n=n) (ho:D.off=false) (e:Nat) (hB:Bad n D e) :CtU prog W 13 [zPp d] [DiskP d D] (.tuple #[.pointer none,yAy F e]) [DiskP d D]:=by
 have fB:yAA n≤65536:=by unfold yAA;omega
 have cP:yA7 n≤65536:=by unfold yA7;omega
 have rl:=fun (v:Nat)=>yIi (D:=D) (at_:=(yAN n:Nat)) (n:=(yA7 n:Nat)) (ver:=v) (((yA7 n:Nat):Int).toNat+1) 0 [] 0 (fun x hx=>by cases hx) (Nat.le_refl _);cases hB with
 |slot e h ao=>exact yOs (W:=W) (F:=F) (d:=d) hE.to16.to8 hN h1 h2 hn ho e h ao
 |hdr h hh=>exact yGv h1 h2 hn ho 15 zO fun s q=>yVY hE hN h1 h2 _ hn h hh
 |area v k h hv v1 hh hk ha=>exact yGv h1 h2 hn ho 15 zO fun s q=>yVZ hE hN h1 h2 _ hn v k v1 hk h hv hh ha
 |rows v k s h hv v1 hh hk ha hs hr=>exact yGv h1 h2 hn ho 15 zO fun s' q=>yV0 hE hN h1 h2 _ hn v k v1 hk h hv hh s zO hr ha
 |bat v r0 ab i h hv v1 hh hk ha hr rp hi hb hg=>
  obtain ⟨l1,l2⟩:=rl v;rw [rp] at l1 l2;exact yGv h1 h2 hn ho 15 zO fun s q=>yV1 hE hN h1 h2 _ hn v hr v1 hk h hv hh ho ha ab rp (fun x hx=>by have:=l1 x hx;omega) zO i hi hb hg
 |room v r0 ab h hv v1 hh hk ha hr rp hd hb=>
  obtain ⟨l1,l2⟩:=rl v;rw [rp] at l1 l2;exact yGv h1 h2 hn ho 15 zO fun s q=>yV2 hE hN h1 h2 _ hn v hr v1 hk h hv hh ho ha ab rp (fun x hx=>by have:=l1 x hx;omega) zO hd hb (yQc hr _ (fun x hx=>by have:=l1 x hx;omega) zO zO)
end
structure FoldW (D:Dsk) (n v:Nat) (r:Rows):Prop where
 way:(yDW D n v r=0∧Still (yCk D n v r))∨(yDW D n v r=12∧(yCk D n v r).off=true)
 nn:(yCk D n v r).n=n
 ok:(yCk D n v r).ok
 life:(yCk D n v r).life=D.life
 und:(yCk D n v r).und.length≤65536
theorem yC7 {D:Dsk} {n:Nat} (aj:Still D) (hn:D.n=n) (h1:64≤n) (h2:n≤65536) (v:Nat) (hv:v+1≤1099511627776) (r:Rows) (ah:(yAk r).length≤234*yAA n):FoldW D n v r:=by
 have fB:yAA n≤65536:=by unfold yAA;omega
 obtain ⟨a1,a2,a3,a4,a5⟩:=yIf aj (yAG n (v+1)) (yAA n) (v+1) (yAk r) (by have:=yBf h1 (v+1);omega) zO ah fB;have iC:(yBJ n (yAk r).length).length≤234:=Nat.le_trans (yDc _ _) zO;have hA:(yBF D (yAG n (v+1)) (yAA n) ((v+1:Nat):Int) (yAk r)).2=yDt D n (v+1) r:=rfl;have hD:yBB (yDt D n (v+1) r) ((0:Nat):Int) ((v+1:Nat):Int) (yBJ n (yAk r).length)=yFG D n (v+1) r:=rfl;rw [hA] at a2 a3 a4 a5;rcases a1 with ⟨e0,s0,-,-⟩|⟨e0,o1,-⟩
 ·rw [hA] at s0;have eE:yDW D n v r=yB1 (yDt D n (v+1) r) 0 ((v+1:Nat):Int) (yBJ n (yAk r).length):=by unfold yDW;rw [if_neg (by rw [e0];simp)]
  have eW:yCk D n v r=yFG D n (v+1) r:=by unfold yCk;rw [if_neg (by rw [e0];simp)]
  obtain ⟨b1,b2,b3,b4,b5⟩:=yKQ (D:=yDt D n (v+1) r) s0 0 (v+1) (yBJ n (yAk r).length) zO zO zO iC;rw [hD] at b1 b2 b3 b4 b5;refine ⟨?_,by rw [eW,b2,a2,hn],by rw [eW];exact b3,by rw [eW,b4,a4],by rw [eW];omega⟩;rcases b1 with ⟨g0,g1,-,-⟩|⟨g0,g1,-⟩
  ·exact .inl ⟨by rw [eE];exact g0,by rw [eW];exact g1⟩
  ·exact .inr ⟨by rw [eE];exact g0,by rw [eW];exact g1⟩
 ·have eE:yDW D n v r=12:=by unfold yDW;rw [if_pos (by rw [e0];simp),e0]
  have eW:yCk D n v r=yDt D n (v+1) r:=by unfold yCk;rw [if_pos (by rw [e0];simp)]
  rw [hA] at o1;exact ⟨.inr ⟨eE,by rw [eW];exact o1⟩,by rw [eW,a2,hn],by rw [eW];exact a3,by rw [eW,a4],by rw [eW];omega⟩
section
variable {W:World} {F:Nat→Addr} {s d q n:Nat} {D:Dsk} {r:Rows} {N:List Nd} {a:Option Addr} {b:Int}
theorem yLd (ay:ErrsOn L8 W F) (hN:NibAt W) (h1:64≤n) (h2:n≤65536) (aj:Still D) (hn:D.n=n) (v:Nat) (hv:v+1≤1099511627776) (lg:Option Addr) (life:Int) (hT:TbOk N a r) (ah:(yAk r).length≤234*yAA n) :(yDW D n v r=12→CtU prog W 51 [zPp s] [stP s d q n (v:Nat) lg life false,DiskP d D,tbP q a b,arP N] (yAy F 12) [stP s d q n (v:Nat) lg life true,DiskP d (yCk D n v r),tbP q a b,arP N])∧ (yDW D n v r=0→Ct prog W 51 [zPp s] [stP s d q n (v:Nat) lg life false,DiskP d D,tbP q a b,arP N] (fun _:Nat=>.nilIface) (fun g=>[stP s d q n ((v+1:Nat):Int) (zq g) life false,DiskP d (yCk D n v r),tbP q a b,arP N,yWv g d n (v+1) (yCk D n v r).life])):=by
 have fB:yAA n≤65536:=by unfold yAA;omega
 have aS:D.und.length+65536<1073741823:=by rw [aj.und];simp
 obtain ⟨a1,a2,a3,a4,a5⟩:=yIf aj (yAG n (v+1)) (yAA n) (v+1) (yAk r) (by have:=yBf h1 (v+1);omega) zO ah fB;have iC:(yBJ n (yAk r).length).length≤234:=Nat.le_trans (yDc _ _) zO;have hA:(yBF D (yAG n (v+1)) (yAA n) ((v+1:Nat):Int) (yAk r)).2=yDt D n (v+1) r:=rfl;have hD:yBB (yDt D n (v+1) r) ((0:Nat):Int) ((v+1:Nat):Int) (yBJ n (yAk r).length)=yFG D n (v+1) r:=rfl;rw [hA] at a2;rcases a1 with ⟨e0,s0,-,-⟩|⟨e0,o1,-⟩
 ·rw [hA] at s0;have eE:yDW D n v r=yB1 (yDt D n (v+1) r) 0 ((v+1:Nat):Int) (yBJ n (yAk r).length):=by unfold yDW;rw [if_neg (by rw [e0];simp)]
  have eW:yCk D n v r=yFG D n (v+1) r:=by unfold yCk;rw [if_neg (by rw [e0];simp)]
  obtain ⟨b1,b2,b3,b4,b5⟩:=yKQ (D:=yDt D n (v+1) r) s0 0 (v+1) (yBJ n (yAk r).length) zO zO zO iC;rw [hD] at b1 b2;rw [eE,eW];refine ⟨fun h=>?_,fun h=>?_⟩
  ·exact yOp (W:=W) (F:=F) (N:=N) (a:=a) (r:=r) (q:=q) (s:=s) (d:=d) (b:=b) (D:=D) ay hN h1 h2 v zO lg life false hT hn ah aS e0 s0.und (by rw [a2,hn]) h
  ·rcases b1 with ⟨g0,g1,-,-⟩|⟨g0,g1,-⟩
   ·exact yH9 (W:=W) (F:=F) (N:=N) (a:=a) (r:=r) (q:=q) (s:=s) (d:=d) (b:=b) (D:=D) ay hN h1 h2 v zO lg life false hT hn ah aS e0 s0.und (by rw [a2,hn]) h g1.on (by rw [b2,a2,hn])
   ·have g0:yB1 (yDt D n (v+1) r) 0 ((v+1:Nat):Int) (yBJ n (yAk r).length)=12:=g0;rw [h] at g0;cases g0
 ·have eE:yDW D n v r=12:=by unfold yDW;rw [if_pos (by rw [e0];simp),e0]
  have eW:yCk D n v r=yDt D n (v+1) r:=by unfold yCk;rw [if_pos (by rw [e0];simp)]
  rw [eE,eW];exact ⟨fun _=>yOo (W:=W) (F:=F) (N:=N) (a:=a) (r:=r) (q:=q) (s:=s) (d:=d) (b:=b) (D:=D) ay hN h1 h2 v zO lg life false hT hn ah aS e0,fun h=>by cases h⟩
theorem yLe (hE:ErrsOn L16 W F) (v:Int) (hv:1099511627776≤v) (lg:Option Addr) (life:Int) (dead:Bool) :CtU prog W 51 [zPp s] [stP s d q n v lg life dead,DiskP d D,tbP q a b,arP N] (yAy F 16) [stP s d q n v lg life dead,DiskP d D,tbP q a b,arP N]:=by
 have e16:W.cell? ⟨7,0,none⟩=some (yAy F 16):=hE.at_ 16 zX;have q1:decide ((1099511627776:Int)≤v)=true:=zY hv;refine zE func51 ntmps51 fun R=>?_;repeat' (first|refine xqa ?_|refine xsf ?_ ?_|refine xdt [(3,xCb),(7,xCc),(10,xCd)] ?_|exact xdn ()|apply zN|intro _)
def yS6 (D:Dsk) (n v:Nat) (r:Rows):Nat:=if 1099511627776≤v then 16 else yDW D n v r
def yOG (D:Dsk) (n v:Nat) (r:Rows):Dsk:=if 1099511627776≤v then D else yCk D n v r
theorem yS7 (hE:ErrsAt W F) (hN:NibAt W) (h1:64≤n) (h2:n≤65536) (aj:Still D) (hn:D.n=n) {r0:Rows} {ab:List zB} {v:Nat} (hL:LiesO n D r0 ab v r) :(yS6 D n v r≠0→CtU prog W 13 [zPp d] [DiskP d D] (.tuple #[.pointer none,yAy F (yS6 D n v r)]) [DiskP d (yOG D n v r)])∧ (yS6 D n v r=0→Ct prog W 13 [zPp d] [DiskP d D] (fun x:Nat × (Nat × TbQ [] r) × Nat=>.tuple #[.pointer (some ⟨x.1,0,none⟩),.nilIface]) (fun x=>[stP x.1 d x.2.1.1 n ((v+1:Nat):Int) (some ⟨x.2.2,0,none⟩) D.life false,DiskP d (yOG D n v r),tbP x.2.1.1 x.2.1.2.1.2.1 x.2.1.2.1.2.2,arP x.2.1.2.1.1,yWv x.2.2 d n (v+1) (yOG D n v r).life])):=by
 have aq:ErrsOn L16 W F:=hE.to16;have ay:ErrsOn L8 W F:=aq.to8;have fB:yAA n≤65536:=by unfold yAA;omega
 have cP:yA7 n≤65536:=by unfold yA7;omega
 obtain ⟨l1,l2⟩:=yIi (D:=D) (at_:=(yAN n:Nat)) (n:=(yA7 n:Nat)) (ver:=v) (((yA7 n:Nat):Int).toNat+1) 0 [] 0 (fun x hx=>by cases hx) (Nat.le_refl _);rw [hL.rp] at l1 l2;have hG:yBA D 0=0∧yB6 D 0=v∧yBT D 0=yBJ n (yAk r0).length∧yCd D (yAG n v) (yAA n) v (yAk r0).length=(yAk r0,0):=⟨hL.e,hL.nv,hL.s,hL.area⟩;have di:∀ x ∈ ab,(yAV x).2=0∧x.length≤4398046511104:=fun x hx=>⟨hL.dec x hx,by have:=l1 x hx;omega⟩;have hA:=yBr (n:=n) zO;have eV:=hL.room0;have du:∀ i,i≤ab.length→(lgR r0 ab i).length≤15335424+i*15269888:=by
  intro i
  induction i with
  |zero=>
   intro _;have:=yC6 r0;have h9:(yAk r0).length=(vu r0.length).length+(r0.flatMap rowB).length:=(by unfold yAk;rw [zLa]);show r0.length≤_;omega
  |succ i ih=>
   intro hi;obtain ⟨x,hx⟩:∃ x,ab[i]? = some x:=⟨_,zLb zO⟩;have h1:=yCX (yAV x).1 (lgR r0 ab i);have h2:=yDY x;have h3:=l1 x (zLk hx);have h4:=ih zO;rw [yCH r0 hx,zLH];omega
 have aO:∀ i x,ab[i]? = some x→(lgR r0 ab i).length+(yAV x).1.length≤144115188075855872:=fun i x hx=>by have h3:=(zLc.1 hx).1;have h4:=du i zO;have h5:=yDY x;have h6:=l1 x (zLk hx);have:i*15269888≤65537*15269888:=zLt _ zO;omega
 have ah:=hL.room;unfold yS6 yOG;by_cases hw:1099511627776≤v
 ·rw [if_pos hw,if_pos hw];refine ⟨fun _=>?_,fun h=>by cases h⟩;exact yOF (W:=W) (F:=F) (d:=d) (D:=D) 16 zO aq ay hN h1 h2 hL.ris0 eV v hL.v1 aj hn hG ab hL.rp di aO zO r hL.is_ ah fun s q N a b hT=>
   (yLe (W:=W) (F:=F) (s:=s) (d:=d) (q:=q) (n:=n) (D:=D) (N:=N) (a:=a) (b:=b) aq (v:Nat) zO none D.life false).to (fun _=>()) (fun _=>rfl) (fun _ R=>(xN))
 ·rw [if_neg hw,if_neg hw];have fe:=fun (s q:Nat) (N:List Nd) (a:Option Addr) (b:Int) (hT:TbOk N a r)=>yLd (W:=W) (F:=F) (s:=s) (d:=d) (q:=q) (b:=b) (D:=D) (r:=r) ay hN h1 h2 aj hn v zO none D.life hT ah;refine ⟨fun h=>?_,fun h=>?_⟩
  ·rcases (yC7 aj hn h1 h2 v zO r ah).way with ⟨q,-⟩|⟨q,-⟩
   ·exact absurd q h
   ·rw [q];exact yOF (W:=W) (F:=F) (d:=d) (D:=D) 12 zO aq ay hN h1 h2 hL.ris0 eV v hL.v1 aj hn hG ab hL.rp di aO zO r hL.is_ ah fun s q' N a b hT=>
     ((fe s q' N a b hT).1 q).to (fun _=>()) (fun _=>rfl) (fun _ R=>(xN))
  ·exact yV3 (W:=W) (F:=F) (d:=d) (D:=D) aq ay hN h1 h2 hL.ris0 eV v ⟨hL.v1.1,zO⟩ aj hn hG ab hL.rp di aO zO r hL.is_ ah fun s q N a b hT=>(fe s q N a b hT).2 h
end
end Go.Proofs.YtoipmnikdiogcaaGreatDoor
