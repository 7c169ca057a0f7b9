/-
  Rdk, Rdk2, Rdk3, AreR, Rdk5.
-/
import Derived.Test.YtlnbkbfblhofbaaGreatDoorVEN
set_option maxRecDepth 100000
set_option maxHeartbeats 64000000
namespace Go.Proofs.YtlnbkbfblhofbaaGreatDoor
open Go Go.RowKit
open Go.Proofs.Tryz
abbrev yM8:Pl:=(.op 0 (.op 1 (.op 2 (.op 3 (.op 4 (.op 5 (.op 6 (.op 7 (.op 8 (.ef 9 [] .nil))))))))))
abbrev yKD:Pl:=(.op 0 (.op 1 (.op 2 (.op 3 (.op 4 (.op 5 (.op 6 (.op 7 (.op 8 (.op 9 (.op 10 (.op 11 (.ef 12 [4,3,2,1,0] (.ef 13 [0] (.op 14 (.op 15 (.ef 16 [] .nil)))))))))))))))))
section
variable {W:World} {n:Nat} {k:KK} {E:Env} {H R:List SP}
theorem KJ.row_shape {v:Value} {e size m:Nat} {xs:List Value} (hsel:Sel (yAP v e size m xs) H R) (hm:0<m) (h:∀ g c,v=.slice (some ⟨g,0,none⟩) m c→KJ W n k E H):KJ W n k E H:=
 ⟨fun a w p s=>by
  rcases (s.left.row hsel).2 with ⟨_,q⟩|⟨g,c,_,q,_⟩
  ·omega
  ·exact (h g c q).go a w p s⟩
theorem KJ.row_slice {v:Value} {e size m:Nat} {xs:List Value} (hsel:Sel (yAP v e size m xs) H R) (h:∀ ad c,v=.slice ad m c→KJ W n k E H):KJ W n k E H:=
 ⟨fun a w p s=>by
  rcases (s.left.row hsel).2 with ⟨q,q2⟩|⟨g,c,_,q,_⟩
  ·subst q2;exact (h none 0 q).go a w p s
  ·exact (h _ c q).go a w p s⟩
end
def yBj (img:List UInt8) (n:Nat):List Value:=(List.range n).map fun i=>strV (cut img (i*256) 256)
def yBI (u:List (Nat × List UInt8)):List Value:=u.flatMap fun x=>[.int .i64 (x.1:Nat),strV x.2]
theorem yBp (img:List UInt8) (n:Nat):(yBj img n).length=n:=by simp [yBj]
theorem yHl (img:List UInt8) (n i:Nat) (h:i<n):(yBj img n)[i]? = some (strV (cut img (i*256) 256)):=by simp [yBj,h]
theorem yM9 (u:List (Nat × List UInt8)) (k j:Nat) (b:List UInt8) (h:u[k]? = some (j,b)) (z:Nat) (v:Value) (hv:[Value.int .i64 (j:Nat),strV b][z]? = some v):(yBI u)[k*2+z]? = some v:=by
 have hz:z<2:=by have:=(zLc.1 hv).1;simpa using this
 rw [← hv]
 exact yOP _ 2 u (fun _ _=>rfl) k (j,b) h z hz
theorem yQV (u:List (Nat × List UInt8)) (j:Nat) (b:List UInt8):yBI (u++[(j,b)])=yBI u++[.int .i64 (j:Nat),strV b]:=by simp [yBI]
theorem yTK {img b:List UInt8} {n i:Nat} (hl:img.length=256*n) (hi:i<n) (hb:b.length≤256) :
 lay (yBj img n) i [strV (b++(cut img (i*256) 256).drop b.length)]=yBj (lay img (i*256) b) n:=by
 apply List.ext_getElem
 ·rw [yBm _ _ _ (by rw [yBp];simp;omega),yBp,yBp]
 ·intro j h1 h2
  rw [yBp] at h2
  have hr:(yBj (lay img (i*256) b) n)[j]? = some (strV (cut (lay img (i*256) b) (j*256) 256)):=yHl _ _ _ h2
  have hll:(lay (yBj img n) i [strV (b++(cut img (i*256) 256).drop b.length)])[j]? = some (strV (cut (lay img (i*256) b) (j*256) 256)):=by
   by_cases hji:j=i
   ·subst hji
    have e:cut (lay img (j*256) b) (j*256) 256=b++(cut img (j*256) 256).drop b.length:=by
     unfold cut lay
     rw [List.drop_left' (by simp;omega),zLF,zLi zO,List.drop_take,List.drop_drop]
    rw [e]
    unfold lay
    rw [zLn (by simp [yBp];omega),zLg,yBp,Nat.min_eq_left zO,Nat.sub_self]
    rfl
   ·have e:cut (lay img (i*256) b) (j*256) 256=cut img (j*256) 256:=by
     rcases Nat.lt_or_ge j i with hlt|hge
     ·exact yEh _ _ _ _ _ zO zO
     ·exact yDa _ _ _ _ _ zO zO
    rw [e,← yHl img n j h2]
    unfold lay
    rcases Nat.lt_or_ge j i with hlt|hge
    ·rw [zLp (by simp [yBp];omega),List.getElem?_take_of_lt hlt]
    ·rw [zLn (by simp [yBp];omega),zLg,yBp,Nat.min_eq_left zO,zLn (by simp;omega),zLC]
     congr 1
     simp
     omega
  rw [zLb h1] at hll
  rw [zLb (by rw [yBp];exact h2)] at hr
  rw [← hr] at hll
  exact Option.some.inj hll
def yWN (sv wv:Value) (D:Dsk):List Value:=[sv,wv,.bool D.off,.bool (decide (0≤D.armed)),.int .i64 (max D.armed 0),.int .i64 D.writes,.int .i64 D.flushes,.int .i64 D.life]
def yCH (p:Nat) (D:Dsk) (x:Value × Value):List SP:=[yAi p (yWN x.1 x.2 D) 36,yAP x.1 9 1 D.n (yBj D.img D.n),yAP x.2 195 2 D.und.length (yBI D.und)]
def yBc (p:Nat) (D:Dsk):SP:=yGU 21 p (yCH p D)
section
variable {W:World} {p:Nat} {D:Dsk}
theorem yVU:CtU prog W 161 [zPp p] [yBc p D] (.int .i64 D.n) [yBc p D]:=by
 refine yMs (Hs:=[]) (fun ⟨sv,wv⟩=>?_)
 refine Ct.enter func161 rfl ntmps161 zW (fun R=>?_)
 show KJ _ _ _ _ ([yAi p [sv,wv,.bool D.off,.bool (decide (0≤D.armed)),.int .i64 (max D.armed 0),.int .i64 D.writes,.int .i64 D.flushes,.int .i64 D.life] 36,yAP sv 9 1 D.n (yBj D.img D.n),yAP wv 195 2 D.und.length (yBI D.und)]++R)
 refine KJ.row_slice (v:=sv) xS (fun ad c e=>?_)
 subst e
 repeat' (first|refine xst ?_|refine xsa ?_;intro _|refine xsb ?_ ?_<;>intro _<;>try omega|refine xsc ?_|fail)
 refine yAR (by first|exact Or.inl rfl|exact Or.inr rfl) rfl (by (repeat' (first|exact Rvs.nil|(apply Rvs.tmp;exact rfl)));first|done|fail) () (by rfl) (fun g q=>yDM (F:=yCH p D) (_,wv) g ((xN) g q))
end
theorem yAX (p:Nat) (D:Dsk) (sv wv:Value):yCH p D (sv,wv)=[yAi p [sv,wv,.bool D.off,.bool (decide (0≤D.armed)),.int .i64 (max D.armed 0),.int .i64 D.writes,.int .i64 D.flushes,.int .i64 D.life] 36,yAP (sv) 9 1 D.n (yBj D.img D.n),yAP (wv) 195 2 D.und.length (yBI D.und)]:=rfl
theorem yIk {P:Program} {W:World} {f:FuncId} {args:List Value} {X:Type} {r:X→Value} {H':X→List SP} {p:Nat} {D:Dsk} (h:∀ sv wv,Ct P W f args (yCH p D (sv,wv)) r H'):Ct P W f args [yBc p D] r H':=
 yMs (Hs:=[]) (fun ⟨sv,wv⟩=>by rw [zLs];exact h sv wv)
theorem yBA {P:Program} {W:World} {n:Nat} {E:Env} {H R:List SP} {r:Unit→Value} {fn:Func} {rs:List ResultVar} {vs:List Value} {ex:Exit} {p:Nat} {D:Dsk} (hex:ex=.ret∨ex=.normal) (hr:fn.results=rs.toArray) (hv:Rvs P E H rs vs) (hc:yH2 vs=r ()) (sv wv:Value) (h:∀ g,yAA H g→yAA (yCH p D (sv,wv)++R) g):KJ W n (.ex (.top (bodyPostM Fence.wide 0 P fn (yPY W r (fun _=>[yBc p D]) R))) ex) E H:=
 yAR hex hr hv () hc (fun g q=>yDM (F:=yCH p D) (sv,wv) g (h g q))
section
variable {P:Program} {W:World} {n:Nat} {E:Env} {H R:List SP} {x y:Operand} {t u:TypeId} {k:IntKind}
theorem yTL {i j m:Int} (hx:Env.ev E x=some (.int k i)) (hy:Env.ev E y=some (.int k j)) (h:k.wrap (i+j)=m):Ev P W n E H (.binOp .add t x y u) (.int k m):=by subst h;exact yOM hx hy
end
theorem yPD (x:Int):IntKind.i64.wrap x=w64 x:=by
 unfold w64 Go.RowKit.wrap64
 have:IntKind.i64.wrap x=if x % 18446744073709551616≥9223372036854775808 then x % 18446744073709551616-18446744073709551616 else x % 18446744073709551616:=by
  simp [IntKind.wrap,IntKind.signed,IntKind.bits]
 rw [this]
 split <;> omega
section
variable {W:World} {p:Nat} {D:Dsk}
theorem yPE (ha:-1≤D.armed∧D.armed≤9223372036854775807) (hoff:D.off=false) (sv wv:Value):CtU prog W 129 [zPp p] (yCH p D (sv,wv)) (.bool D.dead) (yCH p D.gone (sv,wv)):=by
 obtain ⟨n,img,und,off,armed,wr,fl,lf⟩:=D
 dsimp only at ha hoff
 subst hoff
 rcases (show armed=-1∨armed=0∨0<armed by omega) with h|h|h
 ·have e1:yCH p ({ n:=n,img:=img,und:=und,off:=false,armed:=armed,writes:=wr,flushes:=fl,life:=lf }:Dsk) (sv,wv)=[yAi p [sv,wv,.bool false,.bool false,.int .i64 0,.int .i64 wr,.int .i64 fl,.int .i64 lf] 36,yAP sv 9 1 n (yBj img n),yAP wv 195 2 und.length (yBI und)]:=by
   subst h;rfl
  have e2:yCH p (({ n:=n,img:=img,und:=und,off:=false,armed:=armed,writes:=wr,flushes:=fl,life:=lf }:Dsk)).gone (sv,wv)=[yAi p [sv,wv,.bool false,.bool false,.int .i64 0,.int .i64 wr,.int .i64 fl,.int .i64 lf] 36,yAP sv 9 1 n (yBj img n),yAP wv 195 2 und.length (yBI und)]:=by
   subst h;rfl
  have e3:(({ n:=n,img:=img,und:=und,off:=false,armed:=armed,writes:=wr,flushes:=fl,life:=lf }:Dsk)).dead=false:=by unfold Dsk.dead;exact zZ (by show ¬ armed=0;omega)
  rw [e1,e2,e3]
  refine Ct.enter func129 rfl ntmps129 zW (fun R=>?_)
  repeat' (first|refine xst ?_|refine xsa ?_;intro _|refine xsb ?_ ?_<;>intro _<;>try omega|refine xsc ?_|fail)
  all_goals exact yAR (by first|exact Or.inl rfl|exact Or.inr rfl) rfl (by (repeat' (first|exact Rvs.nil|(apply Rvs.tmp;exact rfl)));first|done|fail) () (by rfl) (xN)
 ·have e1:yCH p ({ n:=n,img:=img,und:=und,off:=false,armed:=armed,writes:=wr,flushes:=fl,life:=lf }:Dsk) (sv,wv)=[yAi p [sv,wv,.bool false,.bool true,.int .i64 0,.int .i64 wr,.int .i64 fl,.int .i64 lf] 36,yAP sv 9 1 n (yBj img n),yAP wv 195 2 und.length (yBI und)]:=by
   subst h;rfl
  have e2:yCH p (({ n:=n,img:=img,und:=und,off:=false,armed:=armed,writes:=wr,flushes:=fl,life:=lf }:Dsk)).gone (sv,wv)=[yAi p [sv,wv,.bool true,.bool true,.int .i64 0,.int .i64 wr,.int .i64 fl,.int .i64 lf] 36,yAP sv 9 1 n (yBj img n),yAP wv 195 2 und.length (yBI und)]:=by
   subst h;rfl
  have e3:(({ n:=n,img:=img,und:=und,off:=false,armed:=armed,writes:=wr,flushes:=fl,life:=lf }:Dsk)).dead=true:=by unfold Dsk.dead;exact zY h
  rw [e1,e2,e3]
  refine Ct.enter func129 rfl ntmps129 zW (fun R=>?_)
  repeat' (first|refine yF5 ?_;refine yAa (yAe rfl rfl (q:=false) (by rfl)) ?_|refine xst ?_|refine xsa ?_;intro _|refine xsb ?_ ?_<;>intro _<;>try omega|refine xsc ?_|fail)
  all_goals exact yAR (by first|exact Or.inl rfl|exact Or.inr rfl) rfl (by (repeat' (first|exact Rvs.nil|(apply Rvs.tmp;exact rfl)));first|done|fail) () (by rfl) (xN)
 ·have e1:yCH p ({ n:=n,img:=img,und:=und,off:=false,armed:=armed,writes:=wr,flushes:=fl,life:=lf }:Dsk) (sv,wv)=[yAi p [sv,wv,.bool false,.bool true,.int .i64 armed,.int .i64 wr,.int .i64 fl,.int .i64 lf] 36,yAP sv 9 1 n (yBj img n),yAP wv 195 2 und.length (yBI und)]:=by
   have h1:decide (0≤armed)=true:=zY zO
   have h2:max armed 0=armed:=zO
   simp only [yCH,yWN,h1,h2]
  have e2:yCH p (({ n:=n,img:=img,und:=und,off:=false,armed:=armed,writes:=wr,flushes:=fl,life:=lf }:Dsk)).gone (sv,wv)=[yAi p [sv,wv,.bool false,.bool true,.int .i64 (armed-1),.int .i64 wr,.int .i64 fl,.int .i64 lf] 36,yAP sv 9 1 n (yBj img n),yAP wv 195 2 und.length (yBI und)]:=by
   have h1:decide (0≤armed-1)=true:=zY zO
   have h2:max (armed-1) 0=armed-1:=zO
   have h3:¬ (armed=0):=zO
   simp only [yCH,yWN,Dsk.gone,h3,h,if_true,if_false,h1,h2]
  have e3:(({ n:=n,img:=img,und:=und,off:=false,armed:=armed,writes:=wr,flushes:=fl,life:=lf }:Dsk)).dead=false:=by unfold Dsk.dead;exact zZ (by show ¬ armed=0;omega)
  rw [e1,e2,e3]
  refine Ct.enter func129 rfl ntmps129 zW (fun R=>?_)
  repeat' (first|refine yF5 ?_;refine yAa (yAe rfl rfl (q:=true) (zY h)) ?_|refine xst ?_|refine xsa ?_;intro _|refine xsb ?_ ?_<;>intro _<;>try omega|refine xsc ?_|fail)
  all_goals exact yAR (by first|exact Or.inl rfl|exact Or.inr rfl) rfl (by (repeat' (first|exact Rvs.nil|(apply Rvs.tmp;exact rfl)));first|done|fail) () (by rfl) (xN)
theorem yNa (hok:D.ok) (i:Int) (s:List UInt8) (hul:D.und.length<1073741824):CtU prog W 81 [zPp p,.int .i64 i,strV s] [yBc p D] (.int .i64 (D.writeE i s)) [yBc p (D.writeD i s)]:=by
 refine yIk (fun sv wv=>?_)
 by_cases hoff:D.off=true
 ·have e1:D.writeE i s=12:=by unfold Dsk.writeE;rw [if_pos hoff]
  have e2:D.writeD i s=D:=by unfold Dsk.writeD;rw [if_pos hoff]
  rw [e1,e2]
  show Ct _ _ _ _ [yAi p [sv,wv,.bool D.off,.bool (decide (0≤D.armed)),.int .i64 (max D.armed 0),.int .i64 D.writes,.int .i64 D.flushes,.int .i64 D.life] 36,yAP (sv) 9 1 D.n (yBj D.img D.n),yAP (wv) 195 2 D.und.length (yBI D.und)] _ _
  rw [hoff]
  refine Ct.enter func81 rfl ntmps81 zW (fun R=>?_)
  repeat' (first|refine xst ?_|refine xsa ?_;intro _|refine xsb ?_ ?_<;>intro _<;>try omega|refine xsc ?_|fail)
  all_goals refine yBA (by first|exact Or.inl rfl|exact Or.inr rfl) rfl (by (repeat' (first|exact Rvs.nil|(apply Rvs.tmp;exact rfl)));first|done|fail) (by rfl) (sv) (wv) (fun g q=>?_)
  show yAA ([yAi p [sv,wv,.bool D.off,.bool (decide (0≤D.armed)),.int .i64 (max D.armed 0),.int .i64 D.writes,.int .i64 D.flushes,.int .i64 D.life] 36,yAP (sv) 9 1 D.n (yBj D.img D.n),yAP (wv) 195 2 D.und.length (yBI D.und)]++R) g
  rw [hoff]
  exact (xN) g q
 have hoff:D.off=false:=by simpa using hoff
 have hbad:∀ e:Nat,D.writeE i s=e→D.writeD i s=D→(D.has i=false∨(D.has i=true∧s.length≠256))→(e=if D.has i then 7 else 6)→CtU prog W 81 [zPp p,.int .i64 i,strV s] (yCH p D (sv,wv)) (.int .i64 (D.writeE i s)) [yBc p (D.writeD i s)]:=by
  intro e e1 e2 hc he
  rw [e1,e2]
  show Ct _ _ _ _ [yAi p [sv,wv,.bool D.off,.bool (decide (0≤D.armed)),.int .i64 (max D.armed 0),.int .i64 D.writes,.int .i64 D.flushes,.int .i64 D.life] 36,yAP (sv) 9 1 D.n (yBj D.img D.n),yAP (wv) 195 2 D.und.length (yBI D.und)] _ _
  rw [hoff]
  rcases hc with hc|⟨hc,hs⟩
  ·rw [hc] at he
   subst he
   have hc':¬ (0≤i∧i<D.n):=by unfold Dsk.has at hc;exact of_decide_eq_false hc
   by_cases hi:i<0
   ·have q1:decide (i<0)=true:=zY hi
    refine Ct.enter func81 rfl ntmps81 zW (fun R=>?_)
    repeat' (first|refine yFg ?_;refine yAa (yAc rfl rfl q1) ?_|refine xst ?_|refine xsa ?_;intro _|refine xsb ?_ ?_<;>intro _<;>try omega|refine xsc ?_|fail)
    all_goals refine yBA (by first|exact Or.inl rfl|exact Or.inr rfl) rfl (by (repeat' (first|exact Rvs.nil|(apply Rvs.tmp;exact rfl)));first|done|fail) (by rfl) (sv) (wv) (fun g q=>?_)
    all_goals (show yAA ([yAi p [sv,wv,.bool D.off,.bool (decide (0≤D.armed)),.int .i64 (max D.armed 0),.int .i64 D.writes,.int .i64 D.flushes,.int .i64 D.life] 36,yAP (sv) 9 1 D.n (yBj D.img D.n),yAP (wv) 195 2 D.und.length (yBI D.und)]++R) g;rw [hoff];exact (xN) g q)
   ·have q1:decide (i<0)=false:=zZ hi
    have q2:decide ((D.n:Int)≤i)=true:=zY zO
    refine Ct.enter func81 rfl ntmps81 zW (fun R=>?_)
    refine KJ.row_slice (v:=sv) xS (fun ad c e=>?_)
    subst e
    repeat' (first|refine yFg ?_;refine yAa (yAc rfl rfl q1) ?_|refine yIR ?_;refine yAa (yAm rfl rfl q2) ?_|refine xst ?_|refine xsa ?_;intro _|refine xsb ?_ ?_<;>intro _<;>try omega|refine xsc ?_|fail)
    all_goals refine yBA (by first|exact Or.inl rfl|exact Or.inr rfl) rfl (by (repeat' (first|exact Rvs.nil|(apply Rvs.tmp;exact rfl)));first|done|fail) (by rfl) (.slice ad D.n c) (wv) (fun g q=>?_)
    all_goals (show yAA ([yAi p [.slice ad D.n c,wv,.bool D.off,.bool (decide (0≤D.armed)),.int .i64 (max D.armed 0),.int .i64 D.writes,.int .i64 D.flushes,.int .i64 D.life] 36,yAP (.slice ad D.n c) 9 1 D.n (yBj D.img D.n),yAP (wv) 195 2 D.und.length (yBI D.und)]++R) g;rw [hoff];exact (xN) g q)
  ·rw [hc] at he
   subst he
   have hc':0≤i∧i<D.n:=by unfold Dsk.has at hc;exact of_decide_eq_true hc
   have q1:decide (i<0)=false:=zZ zO
   have q2:decide ((D.n:Int)≤i)=false:=zZ zO
   have q3:((s.length:Nat):Int)≠256:=zO
   refine Ct.enter func81 rfl ntmps81 zW (fun R=>?_)
   refine KJ.row_slice (v:=sv) xS (fun ad c e=>?_)
   subst e
   repeat' (first|refine yD3 ?_;refine yAa (yA0 rfl rfl q3) ?_|refine yFg ?_;refine yAa (yAc rfl rfl q1) ?_|refine yIR ?_;refine yAa (yAm rfl rfl q2) ?_|refine xst ?_|refine xsa ?_;intro _|refine xsb ?_ ?_<;>intro _<;>try omega|refine xsc ?_|fail)
   all_goals refine yBA (by first|exact Or.inl rfl|exact Or.inr rfl) rfl (by (repeat' (first|exact Rvs.nil|(apply Rvs.tmp;exact rfl)));first|done|fail) (by rfl) (.slice ad D.n c) (wv) (fun g q=>?_)
   all_goals (show yAA ([yAi p [.slice ad D.n c,wv,.bool D.off,.bool (decide (0≤D.armed)),.int .i64 (max D.armed 0),.int .i64 D.writes,.int .i64 D.flushes,.int .i64 D.life] 36,yAP (.slice ad D.n c) 9 1 D.n (yBj D.img D.n),yAP (wv) 195 2 D.und.length (yBI D.und)]++R) g;rw [hoff];exact (xN) g q)
 by_cases hh:D.has i=true
 rotate_left
 ·have hh:D.has i=false:=by simpa using hh
  exact hbad 6 (by unfold Dsk.writeE;rw [if_neg (by rw [hoff];simp),if_neg (by rw [hh];simp)]) (by unfold Dsk.writeD;rw [if_neg (by rw [hoff];simp),if_neg (by rw [hh];simp)]) (.inl hh) (by rw [hh];rfl)
 by_cases hs:s.length=256
 rotate_left
 ·exact hbad 7 (by unfold Dsk.writeE;rw [if_neg (by rw [hoff];simp),if_pos hh,if_neg hs]) (by unfold Dsk.writeD;rw [if_neg (by rw [hoff];simp),if_pos hh,if_neg hs]) (.inr ⟨hh,hs⟩) (by rw [hh];rfl)
 clear hbad
 have hc':0≤i∧i<D.n:=by unfold Dsk.has at hh;exact of_decide_eq_true hh
 have q1:decide (i<0)=false:=zZ zO
 have q2:decide ((D.n:Int)≤i)=false:=zZ zO
 have q3:((s.length:Nat):Int)=256:=zO
 obtain ⟨j,rfl⟩:∃ j:Nat,i=(j:Int):=⟨i.toNat,zO⟩
 obtain ⟨D1,hD1⟩:∃ D1:Dsk,D1={ D with und:=D.und++[(j,s)] }:=⟨_,rfl⟩
 have cg:∀ sv wv,CtU prog W 129 [zPp p] (yCH p D1 (sv,wv)) (.bool D.dead) (yCH p D1.gone (sv,wv)):=fun sv wv=>by
  subst hD1;exact yPE (D:={ D with und:=D.und++[(j,s)] }) ⟨hok.arm1,hok.arm2⟩ hoff sv wv
 have hz:∀ sv wv,yCH p D1 (sv,wv)=[yAi p [sv,wv,.bool false,.bool (decide (0≤D.armed)),.int .i64 (max D.armed 0),.int .i64 D.writes,.int .i64 D.flushes,.int .i64 D.life] 36,yAP (sv) 9 1 D.n (yBj D.img D.n),yAP (wv) 195 2 (D.und.length+1) (yBI D.und++[.int .i64 (j:Nat),strV s])]:=fun sv wv=>by
  subst hD1;simp only [yCH,yWN,hoff,zLa,zLj,List.length_nil,yQV]
 have hgw:D1.gone.writes=D.writes:=by rw [Dsk.gone_writes,hD1]
 have hgn:D1.gone.n=D.n:=by rw [Dsk.gone_n,hD1]
 by_cases hd:D.dead=true
 ·have e1:D.writeE (j:Int) s=12:=by unfold Dsk.writeE;rw [if_neg (by rw [hoff];simp),if_pos hh,if_pos hs,if_pos hd]
  have e2:D.writeD (j:Int) s=D1.gone:=by unfold Dsk.writeD;rw [if_neg (by rw [hoff];simp),if_pos hh,if_pos hs,if_pos hd,hD1,zLe]
  rw [hd] at cg
  rw [e1,e2]
  show Ct _ _ _ _ [yAi p [sv,wv,.bool D.off,.bool (decide (0≤D.armed)),.int .i64 (max D.armed 0),.int .i64 D.writes,.int .i64 D.flushes,.int .i64 D.life] 36,yAP (sv) 9 1 D.n (yBj D.img D.n),yAP (wv) 195 2 D.und.length (yBI D.und)] _ _
  rw [hoff]
  refine Ct.enter func81 rfl ntmps81 zW (fun R=>?_)
  refine KJ.row_slice (v:=sv) xS (fun ad c e=>?_)
  subst e
  refine KJ.row_slice (v:=wv) xS (fun wa wc e=>?_)
  subst e
  simp only [hz] at cg
  repeat' (first|refine yAb ?_;refine xca (cg _ _) fun _=>?_|refine yAH ?_;refine yCf (a2:=0) rfl rfl (by rfl) zO xS (Src.cells (i:=2) xS xC) (by rfl) zO xO zO zO rfl rfl (fun gw cw=>?_)|refine yAF ?_;refine yAI rfl xF (by rfl) zO rfl (fun _=>?_)|refine yAB ?_;refine yAa (yAC xV xW) ?_|refine yD3 ?_;refine yAa (yAv rfl rfl q3) ?_|refine yFg ?_;refine yAa (yAc rfl rfl q1) ?_|refine yIR ?_;refine yAa (yAm rfl rfl q2) ?_|refine xst ?_|refine xsa ?_;intro _|refine xsb ?_ ?_<;>intro _<;>try omega|refine xsc ?_|fail)
  all_goals refine yBA (by first|exact Or.inl rfl|exact Or.inr rfl) rfl (by (repeat' (first|exact Rvs.nil|(apply Rvs.tmp;exact rfl)));first|done|fail) (by rfl) (.slice ad D.n c) (.slice (some ⟨gw,0,none⟩) (D.und.length+1) cw) (fun g q=>?_)
  all_goals exact (xN) g q
 ·have hd:D.dead=false:=by simpa using hd
  have e1:D.writeE (j:Int) s=0:=by unfold Dsk.writeE;rw [if_neg (by rw [hoff];simp),if_pos hh,if_pos hs,if_neg (by rw [hd];simp)]
  have e2:D.writeD (j:Int) s={ D1.gone with writes:=w64 (D1.gone.writes+1) }:=by unfold Dsk.writeD;rw [if_neg (by rw [hoff];simp),if_pos hh,if_pos hs,if_neg (by rw [hd];simp),hD1,zLe]
  rw [hd] at cg
  rw [e1,e2]
  obtain ⟨D2,hD2⟩:∃ D2,D2=D1.gone:=⟨_,rfl⟩
  rw [← hD2] at cg hgn ⊢
  have hw1:IntKind.i64.wrap (D2.writes+1)=w64 (D2.writes+1):=yPD _
  clear hD2 hgw
  have hz2:∀ sv wv,yCH p D2 (sv,wv)=[yAi p [sv,wv,.bool D2.off,.bool (decide (0≤D2.armed)),.int .i64 (max D2.armed 0),.int .i64 D2.writes,.int .i64 D2.flushes,.int .i64 D2.life] 36,yAP sv 9 1 D2.n (yBj D2.img D2.n),yAP wv 195 2 D2.und.length (yBI D2.und)]:=fun _ _=>rfl
  simp only [hz2] at cg
  show Ct _ _ _ _ [yAi p [sv,wv,.bool D.off,.bool (decide (0≤D.armed)),.int .i64 (max D.armed 0),.int .i64 D.writes,.int .i64 D.flushes,.int .i64 D.life] 36,yAP (sv) 9 1 D.n (yBj D.img D.n),yAP (wv) 195 2 D.und.length (yBI D.und)] _ _
  rw [hoff]
  refine Ct.enter func81 rfl ntmps81 zW (fun R=>?_)
  refine KJ.row_slice (v:=sv) xS (fun ad c e=>?_)
  subst e
  refine KJ.row_slice (v:=wv) xS (fun wa wc e=>?_)
  subst e
  simp only [hz] at cg
  repeat' (first|refine yAb ?_;refine xca (cg _ _) fun _=>?_|refine yAH ?_;refine yCf (a2:=0) rfl rfl (by rfl) zO xS (Src.cells (i:=2) xS xC) (by rfl) zO xO zO zO rfl rfl (fun gw cw=>?_)|refine yAF ?_;refine yAI rfl xF (by rfl) zO rfl (fun _=>?_)|refine yAB ?_;refine yAa (yAC xV xW) ?_|refine yWf ?_;refine yAa (yTL rfl rfl hw1) ?_|refine yD3 ?_;refine yAa (yAv rfl rfl q3) ?_|refine yFg ?_;refine yAa (yAc rfl rfl q1) ?_|refine yIR ?_;refine yAa (yAm rfl rfl q2) ?_|refine xst ?_|refine xsa ?_;intro _|refine xsb ?_ ?_<;>intro _<;>try omega|refine xsc ?_|fail)
  all_goals refine yBA (by first|exact Or.inl rfl|exact Or.inr rfl) rfl (by (repeat' (first|exact Rvs.nil|(apply Rvs.tmp;exact rfl)));first|done|fail) (by rfl) (.slice ad D.n c) (.slice (some ⟨gw,0,none⟩) (D.und.length+1) cw) (fun g q=>?_)
  all_goals exact (xN) g q
end
theorem yQW (u:List (Nat × List UInt8)) (k j:Nat) (b:List UInt8) (i:Nat) (h:u[k]? = some (j,b)):yFY (u.take (k+1)) i=if j=i then some b else yFY (u.take k) i:=by
 have h1:=(zLc.1 h).1
 have h2:u[k]=(j,b):=(zLc.1 h).2
 rw [List.take_succ_eq_append_getElem h1,h2,yHu]
theorem yFA {e size:Nat} {H R:List SP}:∀ g,yAA (H++R) g→yAA (H++[yAP (.slice none 0 0) e size 0 []]++R) g:=by
 intro g q
 have q2:yAA (yAP (.slice none 0 0) e size 0 []::(H++R)) g:=⟨fun _=>none,g,(fun _ _ q=>by cases q),(fun _ _ q=>by cases q),.rfl,⟨by simp,.inl ⟨rfl,rfl⟩⟩,q⟩
 refine yFG ?_ g q2
 have:(H++[yAP (.slice none 0 0) e size 0 []]++R)=H++yAP (.slice none 0 0) e size 0 []::R:=zW
 rw [this]
 exact List.perm_middle.symm
section
variable {W:World} {p:Nat} {D:Dsk}
theorem yJL (hok:D.ok) (i:Int) (hul:D.und.length<1073741824):CtU prog W 73 [zPp p,.int .i64 i] [yBc p D] (.tuple #[strV (D.readS i),.int .i64 (D.readE i)]) [yBc p D]:=by
 refine yIk (fun sv wv=>?_)
 have hn1:=hok.n1
 have hn2:=hok.n2
 by_cases hoff:D.off=true
 ·have e1:D.readE i=12:=by unfold Dsk.readE;rw [if_pos hoff]
  have e2:D.readS i=[]:=by unfold Dsk.readS;rw [if_pos hoff]
  rw [e1,e2]
  show Ct _ _ _ _ [yAi p [sv,wv,.bool D.off,.bool (decide (0≤D.armed)),.int .i64 (max D.armed 0),.int .i64 D.writes,.int .i64 D.flushes,.int .i64 D.life] 36,yAP (sv) 9 1 D.n (yBj D.img D.n),yAP (wv) 195 2 D.und.length (yBI D.und)] _ _
  rw [hoff]
  refine Ct.enter func73 rfl ntmps73 zW (fun R=>?_)
  repeat' (first|refine xst ?_|refine xsa ?_;intro _|refine xsb ?_ ?_<;>intro _<;>try omega|refine xsc ?_|fail)
  all_goals refine yBA (by first|exact Or.inl rfl|exact Or.inr rfl) rfl (by (repeat' (first|exact Rvs.nil|(apply Rvs.tmp;exact rfl)));first|done|fail) (by rfl) (sv) (wv) (fun g q=>?_)
  all_goals (show yAA ([yAi p [sv,wv,.bool D.off,.bool (decide (0≤D.armed)),.int .i64 (max D.armed 0),.int .i64 D.writes,.int .i64 D.flushes,.int .i64 D.life] 36,yAP (sv) 9 1 D.n (yBj D.img D.n),yAP (wv) 195 2 D.und.length (yBI D.und)]++R) g;rw [hoff];exact (xN) g q)
 have hoff:D.off=false:=by simpa using hoff
 by_cases hh:D.has i=true
 rotate_left
 ·have hh:D.has i=false:=by simpa using hh
  have e1:D.readE i=6:=by unfold Dsk.readE;rw [if_neg (by rw [hoff];simp),if_neg (by rw [hh];simp)]
  have e2:D.readS i=[]:=by unfold Dsk.readS;rw [if_neg (by rw [hoff];simp),if_neg (by rw [hh];simp)]
  rw [e1,e2]
  have hc':¬ (0≤i∧i<D.n):=by unfold Dsk.has at hh;exact of_decide_eq_false hh
  show Ct _ _ _ _ [yAi p [sv,wv,.bool D.off,.bool (decide (0≤D.armed)),.int .i64 (max D.armed 0),.int .i64 D.writes,.int .i64 D.flushes,.int .i64 D.life] 36,yAP (sv) 9 1 D.n (yBj D.img D.n),yAP (wv) 195 2 D.und.length (yBI D.und)] _ _
  rw [hoff]
  by_cases hi:i<0
  ·have q1:decide (i<0)=true:=zY hi
   refine Ct.enter func73 rfl ntmps73 zW (fun R=>?_)
   repeat' (first|refine yFg ?_;refine yAa (yAc rfl rfl q1) ?_|refine xst ?_|refine xsa ?_;intro _|refine xsb ?_ ?_<;>intro _<;>try omega|refine xsc ?_|fail)
   all_goals refine yBA (by first|exact Or.inl rfl|exact Or.inr rfl) rfl (by (repeat' (first|exact Rvs.nil|(apply Rvs.tmp;exact rfl)));first|done|fail) (by rfl) (sv) (wv) (fun g q=>?_)
   all_goals (show yAA ([yAi p [sv,wv,.bool D.off,.bool (decide (0≤D.armed)),.int .i64 (max D.armed 0),.int .i64 D.writes,.int .i64 D.flushes,.int .i64 D.life] 36,yAP (sv) 9 1 D.n (yBj D.img D.n),yAP (wv) 195 2 D.und.length (yBI D.und)]++R) g;rw [hoff];exact (xN) g q)
  ·have q1:decide (i<0)=false:=zZ hi
   have q2:decide ((D.n:Int)≤i)=true:=zY zO
   refine Ct.enter func73 rfl ntmps73 zW (fun R=>?_)
   refine KJ.row_shape (v:=sv) xS zO (fun gs c e=>?_)
   subst e
   repeat' (first|refine yFg ?_;refine yAa (yAc rfl rfl q1) ?_|refine yIR ?_;refine yAa (yAm rfl rfl q2) ?_|refine xst ?_|refine xsa ?_;intro _|refine xsb ?_ ?_<;>intro _<;>try omega|refine xsc ?_|fail)
   all_goals refine yBA (by first|exact Or.inl rfl|exact Or.inr rfl) rfl (by (repeat' (first|exact Rvs.nil|(apply Rvs.tmp;exact rfl)));first|done|fail) (by rfl) (.slice (some ⟨gs,0,none⟩) D.n c) (wv) (fun g q=>?_)
   all_goals (show yAA ([yAi p [.slice (some ⟨gs,0,none⟩) D.n c,wv,.bool D.off,.bool (decide (0≤D.armed)),.int .i64 (max D.armed 0),.int .i64 D.writes,.int .i64 D.flushes,.int .i64 D.life] 36,yAP (.slice (some ⟨gs,0,none⟩) D.n c) 9 1 D.n (yBj D.img D.n),yAP (wv) 195 2 D.und.length (yBI D.und)]++R) g;rw [hoff];exact (xN) g q)
 have hc':0≤i∧i<D.n:=by unfold Dsk.has at hh;exact of_decide_eq_true hh
 have q1:decide (i<0)=false:=zZ zO
 have q2:decide ((D.n:Int)≤i)=false:=zZ zO
 obtain ⟨j,rfl⟩:∃ j:Nat,i=(j:Int):=⟨i.toNat,zO⟩
 have hj:j<D.n:=zO
 have e1:D.readE (j:Int)=0:=by unfold Dsk.readE;rw [if_neg (by rw [hoff];simp),if_pos hh]
 have e2:D.readS (j:Int)=(yFY (D.und.take D.und.length) j).getD (D.sec j):=by unfold Dsk.readS;rw [if_neg (by rw [hoff];simp),if_pos hh,zLe,List.take_length];rfl
 obtain ⟨A,hA⟩:∃ A:Nat→List UInt8,A=fun k=>(yFY (D.und.take k) j).getD (D.sec j):=⟨_,rfl⟩
 have hA0:D.sec j=A 0:=by rw [hA];simp [yGz]
 have hAl:(yFY (D.und.take D.und.length) j).getD (D.sec j)=A D.und.length:=by rw [hA]
 have hAn:∀ k i b,D.und[k]? = some (i,b)→A (k+1)=if i=j then b else A k:=fun k i b h=>by
  rw [hA]
  show (yFY (D.und.take (k+1)) j).getD _=_
  rw [yQW _ _ _ _ _ h]
  split <;> rfl
 have hS:(yBj D.img D.n)[0+(j:Int).toNat*1]? = some (strV (A 0)):=by
  rw [zLe,Nat.mul_one,zLq,yHl _ _ _ hj,← hA0];rfl
 rw [e1,e2,hAl]
 clear hA hAl e1 e2 hA0
 show Ct _ _ _ _ [yAi p [sv,wv,.bool D.off,.bool (decide (0≤D.armed)),.int .i64 (max D.armed 0),.int .i64 D.writes,.int .i64 D.flushes,.int .i64 D.life] 36,yAP (sv) 9 1 D.n (yBj D.img D.n),yAP (wv) 195 2 D.und.length (yBI D.und)] _ _
 rw [hoff]
 refine Ct.enter func73 rfl ntmps73 zW (fun R=>?_)
 refine KJ.row_shape (v:=sv) xS zO (fun gs c e=>?_)
 subst e
 refine KJ.row_slice (v:=wv) xS (fun wa wc e=>?_)
 subst e
 repeat' (first|refine yAj ?_;refine yAa (yC3 rfl xS hS) ?_|refine yFg ?_;refine yAa (yAc rfl rfl q1) ?_|refine yIR ?_;refine yAa (yAm rfl rfl q2) ?_|refine xst ?_|refine xsa ?_;intro _|refine xsb ?_ ?_<;>intro _<;>try omega|refine xsc ?_|fail)
 refine yAz (fun i:{k:Nat//k≤D.und.length}=>[(1,.int .i64 (j:Nat)),(6,strV (A i.1)),(34,.slice wa D.und.length wc),(35,.int .i64 D.und.length),(36,.int .i64 (i.1:Nat))]) (fun _=>[yAi p [.slice (some ⟨gs,0,none⟩) D.n c,.slice wa D.und.length wc,.bool false,.bool (decide (0≤D.armed)),.int .i64 (max D.armed 0),.int .i64 D.writes,.int .i64 D.flushes,.int .i64 D.life] 36,yAP (.slice (some ⟨gs,0,none⟩) D.n c) 9 1 D.n (yBj D.img D.n),yAP (.slice wa D.und.length wc) 195 2 D.und.length (yBI D.und)]++R) (fun i=>D.und.length-i.1) ⟨0,zO⟩ xB (xN) (fun ⟨k,hk⟩=>?_)
 dsimp only
 by_cases hlt:k<D.und.length
 ·obtain ⟨x,b,hx⟩:∃ x b,D.und[k]? = some (x,b):=⟨(D.und[k]).1,(D.und[k]).2,by rw [zLb hlt]⟩
  have hnx:=hAn k x b hx
  have hW:∀ z v,[Value.int .i64 (x:Nat),strV b][z]? = some v→(yBI D.und)[0+(k:Int).toNat*2+z]? = some v:=fun z v hv=>by rw [zLe,zLq];exact yM9 _ _ _ _ hx z v hv
  refine KJ.row_shape (v:=.slice wa D.und.length wc) xS zO (fun gw c' e=>?_)
  obtain ⟨rfl,rfl⟩:wa=some ⟨gw,0,none⟩∧wc=c':=by cases e;exact ⟨rfl,rfl⟩
  by_cases hxj:x=j
  ·have hq:((x:Nat):Int)=((j:Nat):Int):=by omega
   rw [if_pos hxj] at hnx
   repeat' (first|refine yAj ?_;refine yAa (yDs rfl xS hW (by rfl)) ?_|refine yWf ?_;refine yAa (yAd (r:=((k+1:Nat):Int)) rfl rfl zO zO) ?_|refine yDe ?_;refine yAa (yDf rfl rfl hq) ?_|refine xst ?_|refine xsa ?_;intro _|refine xsb ?_ ?_<;>intro _<;>try omega|refine xsc ?_|fail)
   refine yAp ⟨k+1,zO⟩ (by show D.und.length-(k+1)<D.und.length-k;omega) ?_ (xN)
   rw [hnx]
   exact xB
  ·have hq:((x:Nat):Int)≠((j:Nat):Int):=by omega
   rw [if_neg hxj] at hnx
   repeat' (first|refine yAj ?_;refine yAa (yDs rfl xS hW (by rfl)) ?_|refine yWf ?_;refine yAa (yAd (r:=((k+1:Nat):Int)) rfl rfl zO zO) ?_|refine yDe ?_;refine yAa (yBl rfl rfl hq) ?_|refine xst ?_|refine xsa ?_;intro _|refine xsb ?_ ?_<;>intro _<;>try omega|refine xsc ?_|fail)
   refine yAp ⟨k+1,zO⟩ (by show D.und.length-(k+1)<D.und.length-k;omega) ?_ (xN)
   rw [hnx]
   exact xB
 ·have hkl:k=D.und.length:=by omega
  subst hkl
  repeat' (first|refine xst ?_|refine xsa ?_;intro _|refine xsb ?_ ?_<;>intro _<;>try omega|refine xsc ?_|fail)
  all_goals refine yBA (by first|exact Or.inl rfl|exact Or.inr rfl) rfl (by (repeat' (first|exact Rvs.nil|(apply Rvs.tmp;exact rfl)));first|done|fail) (by rfl) (.slice (some ⟨gs,0,none⟩) D.n c) (.slice wa D.und.length wc) (fun g q=>?_)
  all_goals (show yAA ([yAi p [.slice (some ⟨gs,0,none⟩) D.n c,.slice wa D.und.length wc,.bool D.off,.bool (decide (0≤D.armed)),.int .i64 (max D.armed 0),.int .i64 D.writes,.int .i64 D.flushes,.int .i64 D.life] 36,yAP (.slice (some ⟨gs,0,none⟩) D.n c) 9 1 D.n (yBj D.img D.n),yAP (.slice wa D.und.length wc) 195 2 D.und.length (yBI D.und)]++R) g;rw [hoff];exact (xN) g q)
theorem yTM (hok:D.ok):CtU prog W 16 [zPp p] [yBc p D] (strV D.img) [yBc p D]:=by
 refine yIk (fun sv wv=>?_)
 have hn1:=hok.n1
 have hn2:=hok.n2
 have hlen:=hok.len
 have hfull:D.img.take (256*D.n)=D.img:=zLi zO
 have hA0:([]:List Value)=bvs (D.img.take (256*0)):=rfl
 show Ct _ _ _ _ [yAi p [sv,wv,.bool D.off,.bool (decide (0≤D.armed)),.int .i64 (max D.armed 0),.int .i64 D.writes,.int .i64 D.flushes,.int .i64 D.life] 36,yAP (sv) 9 1 D.n (yBj D.img D.n),yAP (wv) 195 2 D.und.length (yBI D.und)] _ _
 refine Ct.enter func16 rfl ntmps16 zW (fun R=>?_)
 refine KJ.row_shape (v:=sv) xS zO (fun gs c e=>?_)
 subst e
 repeat' (first|refine yAF ?_;refine yDB rfl (fun g0=>?_)|refine xst ?_|refine xsa ?_;intro _|refine xsb ?_ ?_<;>intro _<;>try omega|refine xsc ?_|fail)
 refine yAz (fun i:{x:Nat × Nat × Nat//x.1≤D.n}=>[(3,.slice (some ⟨i.1.2.1,0,none⟩) (256*i.1.1) i.1.2.2),(10,.slice (some ⟨gs,0,none⟩) D.n c),(11,.int .i64 D.n),(12,.int .i64 (i.1.1:Nat))]) (fun i=>[yAP (.slice (some ⟨i.1.2.1,0,none⟩) (256*i.1.1) i.1.2.2) 5 1 (256*i.1.1) (bvs (D.img.take (256*i.1.1)))]++[yAi p [.slice (some ⟨gs,0,none⟩) D.n c,wv,.bool D.off,.bool (decide (0≤D.armed)),.int .i64 (max D.armed 0),.int .i64 D.writes,.int .i64 D.flushes,.int .i64 D.life] 36,yAP (.slice (some ⟨gs,0,none⟩) D.n c) 9 1 D.n (yBj D.img D.n),yAP (wv) 195 2 D.und.length (yBI D.und)]++R) (fun i=>D.n-i.1.1) ⟨(0,g0,0),zO⟩ xB ?_ (fun ⟨⟨k,g1,c1⟩,hk⟩=>?_)
 ·exact (xN)
 dsimp only at hk ⊢
 by_cases hlt:k<D.n
 ·have hS:(yBj D.img D.n)[0+(k:Int).toNat*1]? = some (strV (cut D.img (k*256) 256)):=by rw [zLe,Nat.mul_one,zLq,yHl _ _ _ hlt]
  have hcl:(cut D.img (k*256) 256).length=256:=yBq _ _ _ zO
  have hnx:bvs (D.img.take (256*k))++bvs (cut D.img (k*256) 256)=bvs (D.img.take (256*(k+1))):=by rw [← yU8];simp [bvs]
  have hnl:256*k+(cut D.img (k*256) 256).length=256*(k+1):=by rw [hcl];omega
  repeat' (first|refine yAH ?_;refine yD6 rfl rfl xS (.inr rfl) (by rw [hcl];omega) rfl (fun g2 c2=>?_)|refine yAj ?_;refine yAa (yC3 rfl xS hS) ?_|refine yWf ?_;refine yAa (yAd (r:=((k+1:Nat):Int)) rfl rfl zO zO) ?_|refine xst ?_|refine xsa ?_;intro _|refine xsb ?_ ?_<;>intro _<;>try omega|refine xsc ?_|fail)
  rw [hnl,hnx]
  refine yAp ⟨(k+1,g2,c2),zO⟩ (by show D.n-(k+1)<D.n-k;omega) xB (xN)
 ·have hkl:k=D.n:=by omega
  subst hkl
  rw [hfull]
  repeat' (first|refine yEf ?_;refine yAa (yEM rfl xS) ?_|refine xst ?_|refine xsa ?_;intro _|refine xsb ?_ ?_<;>intro _<;>try omega|refine xsc ?_|fail)
  all_goals refine yBA (by first|exact Or.inl rfl|exact Or.inr rfl) rfl (by (repeat' (first|exact Rvs.nil|(apply Rvs.tmp;exact rfl)));first|done|fail) (by rfl) (.slice (some ⟨gs,0,none⟩) D.n c) (wv) (fun g q=>?_)
  all_goals (show yAA ([yAi p [.slice (some ⟨gs,0,none⟩) D.n c,wv,.bool D.off,.bool (decide (0≤D.armed)),.int .i64 (max D.armed 0),.int .i64 D.writes,.int .i64 D.flushes,.int .i64 D.life] 36,yAP (.slice (some ⟨gs,0,none⟩) D.n c) 9 1 D.n (yBj D.img D.n),yAP (wv) 195 2 D.und.length (yBI D.und)]++R) g;exact (xN) g q)
theorem yNb (hok:D.ok) (hul:D.und.length<1073741824):CtU prog W 82 [zPp p] [yBc p D] (.int .i64 D.flushE) [yBc p D.flushD]:=by
 refine yIk (fun sv wv=>?_)
 by_cases hoff:D.off=true
 ·have e1:D.flushE=12:=by unfold Dsk.flushE;rw [hoff];rfl
  have e2:D.flushD=D:=by unfold Dsk.flushD;rw [if_pos hoff]
  rw [e1,e2]
  show Ct _ _ _ _ [yAi p [sv,wv,.bool D.off,.bool (decide (0≤D.armed)),.int .i64 (max D.armed 0),.int .i64 D.writes,.int .i64 D.flushes,.int .i64 D.life] 36,yAP (sv) 9 1 D.n (yBj D.img D.n),yAP (wv) 195 2 D.und.length (yBI D.und)] _ _
  rw [hoff]
  refine Ct.enter func82 rfl ntmps82 zW (fun R=>?_)
  repeat' (first|refine xst ?_|refine xsa ?_;intro _|refine xsb ?_ ?_<;>intro _<;>try omega|refine xsc ?_|refine xdr 9 yM8 ?_|refine xsd ?_ ?_|exact Rech.nil|fail)
  all_goals refine yBA (by first|exact Or.inl rfl|exact Or.inr rfl) rfl (by (repeat' (first|exact Rvs.nil|(apply Rvs.tmp;exact rfl)));first|done|fail) (by rfl) (sv) (wv) (fun g q=>?_)
  all_goals (show yAA ([yAi p [sv,wv,.bool D.off,.bool (decide (0≤D.armed)),.int .i64 (max D.armed 0),.int .i64 D.writes,.int .i64 D.flushes,.int .i64 D.life] 36,yAP (sv) 9 1 D.n (yBj D.img D.n),yAP (wv) 195 2 D.und.length (yBI D.und)]++R) g;rw [hoff];exact (xN) g q)
 have hoff:D.off=false:=by simpa using hoff
 have cg:CtU prog W 129 [zPp p] (yCH p D (sv,wv)) (.bool D.dead) (yCH p D.gone (sv,wv)):=yPE ⟨hok.arm1,hok.arm2⟩ hoff sv wv
 have hz:yCH p D (sv,wv)=[yAi p [sv,wv,.bool false,.bool (decide (0≤D.armed)),.int .i64 (max D.armed 0),.int .i64 D.writes,.int .i64 D.flushes,.int .i64 D.life] 36,yAP (sv) 9 1 D.n (yBj D.img D.n),yAP (wv) 195 2 D.und.length (yBI D.und)]:=by simp only [yCH,yWN,hoff]
 rw [hz] at cg
 by_cases hd:D.dead=true
 ·have e1:D.flushE=12:=by unfold Dsk.flushE;rw [hoff,hd];rfl
  have e2:D.flushD=D.gone:=by unfold Dsk.flushD;rw [if_neg (by rw [hoff];simp),if_pos hd]
  rw [hd] at cg
  rw [e1,e2]
  show Ct _ _ _ _ [yAi p [sv,wv,.bool D.off,.bool (decide (0≤D.armed)),.int .i64 (max D.armed 0),.int .i64 D.writes,.int .i64 D.flushes,.int .i64 D.life] 36,yAP (sv) 9 1 D.n (yBj D.img D.n),yAP (wv) 195 2 D.und.length (yBI D.und)] _ _
  rw [hoff]
  refine Ct.enter func82 rfl ntmps82 zW (fun R=>?_)
  repeat' (first|refine yAb ?_;refine xca cg fun _=>?_|refine xst ?_|refine xsa ?_;intro _|refine xsb ?_ ?_<;>intro _<;>try omega|refine xsc ?_|refine xdr 9 yM8 ?_|refine xsd ?_ ?_|exact Rech.nil|fail)
  all_goals refine yBA (by first|exact Or.inl rfl|exact Or.inr rfl) rfl (by (repeat' (first|exact Rvs.nil|(apply Rvs.tmp;exact rfl)));first|done|fail) (by rfl) (sv) (wv) (fun g q=>?_)
  all_goals exact (xN) g q
 have hd:D.dead=false:=by simpa using hd
 have e1:D.flushE=0:=by unfold Dsk.flushE;rw [hoff,hd];rfl
 have e2:D.flushD={ D.gone with img:=yBe D.img D.und,und:=[],flushes:=w64 (D.flushes+1) }:=by unfold Dsk.flushD;rw [if_neg (by rw [hoff];simp),if_neg (by rw [hd];simp)]
 rw [hd] at cg
 have hn1:=hok.n1
 have hn2:=hok.n2
 have hlen:=hok.len
 have hund:=hok.und
 obtain ⟨G,hG⟩:∃ G,G=D.gone:=⟨_,rfl⟩
 have g1:G.n=D.n:=by rw [hG,Dsk.gone_n]
 have g2:G.img=D.img:=by rw [hG,Dsk.gone_img]
 have g3:G.und=D.und:=by rw [hG,Dsk.gone_und]
 have g4:G.flushes=D.flushes:=by rw [hG,Dsk.gone_flushes]
 have hzG:yCH p G (sv,wv)=[yAi p [sv,wv,.bool G.off,.bool (decide (0≤G.armed)),.int .i64 (max G.armed 0),.int .i64 G.writes,.int .i64 D.flushes,.int .i64 G.life] 36,yAP (sv) 9 1 D.n (yBj D.img D.n),yAP (wv) 195 2 D.und.length (yBI D.und)]:=by simp only [yCH,yWN,g1,g2,g3,g4]
 rw [e1,e2]
 rw [← hG] at cg ⊢
 rw [hzG] at cg
 have hw1:IntKind.i64.wrap (D.flushes+1)=w64 (D.flushes+1):=yPD _
 show Ct _ _ _ _ [yAi p [sv,wv,.bool D.off,.bool (decide (0≤D.armed)),.int .i64 (max D.armed 0),.int .i64 D.writes,.int .i64 D.flushes,.int .i64 D.life] 36,yAP (sv) 9 1 D.n (yBj D.img D.n),yAP (wv) 195 2 D.und.length (yBI D.und)] _ _
 rw [hoff]
 refine Ct.enter func82 rfl ntmps82 zW (fun R=>?_)
 refine KJ.row_shape (v:=sv) xS zO (fun gs c e=>?_)
 subst e
 refine KJ.row_slice (v:=wv) xS (fun wa wc e=>?_)
 subst e
 repeat' (first|refine yAb ?_;refine xca cg fun _=>?_|refine xst ?_|refine xsa ?_;intro _|refine xsb ?_ ?_<;>intro _<;>try omega|refine xsc ?_|refine xdr 9 yM8 ?_|refine xsd ?_ ?_|exact Rech.nil|fail)
 refine yAz (fun i:{k:Nat//k≤D.und.length}=>[(0,zPp p),(16,.slice wa D.und.length wc),(17,.int .i64 D.und.length),(18,.int .i64 (i.1:Nat))]) (fun i=>[yAi p [.slice (some ⟨gs,0,none⟩) D.n c,.slice wa D.und.length wc,.bool G.off,.bool (decide (0≤G.armed)),.int .i64 (max G.armed 0),.int .i64 G.writes,.int .i64 D.flushes,.int .i64 G.life] 36,yAP (.slice (some ⟨gs,0,none⟩) D.n c) 9 1 D.n (yBj (yBe D.img (D.und.take i.1)) D.n),yAP (.slice wa D.und.length wc) 195 2 D.und.length (yBI D.und)]++R) (fun i=>D.und.length-i.1) ⟨0,zO⟩ xB (xN) (fun ⟨k,hk⟩=>?_)
 dsimp only
 have hli:(yBe D.img (D.und.take k)).length=256*D.n:=yDr _ _ _ hlen (fun x hx=>hund x (List.mem_of_mem_take hx))
 by_cases hlt:k<D.und.length
 ·obtain ⟨x,b,hx⟩:∃ x b,D.und[k]? = some (x,b):=⟨(D.und[k]).1,(D.und[k]).2,by rw [zLb hlt]⟩
  have hxb:=hund _ (zLk hx)
  have hxn:x<D.n:=hxb.1
  have hb:b.length=256:=hxb.2
  have hnx:=yTK (b:=b) hli hxn zO
  rw [zLl (by rw [hb,yBq _ _ _ zO];omega),zLs,← yIL _ _ _ _ _ hx] at hnx
  have hnx':lay (yBj (yBe D.img (D.und.take k)) D.n) (0+(x:Int).toNat*1) [strV b]=yBj (yBe D.img (D.und.take (k+1))) D.n:=by rw [zLe,Nat.mul_one,zLq];exact hnx
  have hW:∀ z v,[Value.int .i64 (x:Nat),strV b][z]? = some v→(yBI D.und)[0+(k:Int).toNat*2+z]? = some v:=fun z v hv=>by rw [zLe,zLq];exact yM9 _ _ _ _ hx z v hv
  refine KJ.row_shape (v:=.slice wa D.und.length wc) xS zO (fun gw c' e=>?_)
  obtain ⟨rfl,rfl⟩:wa=some ⟨gw,0,none⟩∧wc=c':=by cases e;exact ⟨rfl,rfl⟩
  repeat' (first|refine yFJ ?_;refine yGo rfl rfl xS xF (by rfl) xO (by rw [yBp];simp;omega) ?_|refine yAj ?_;refine yAa (yDs rfl xS hW (by rfl)) ?_|refine yWf ?_;refine yAa (yAd (r:=((k+1:Nat):Int)) rfl rfl zO zO) ?_|refine xst ?_|refine xsa ?_;intro _|refine xsb ?_ ?_<;>intro _<;>try omega|refine xsc ?_|refine xdr 9 yM8 ?_|refine xsd ?_ ?_|exact Rech.nil|fail)
  all_goals try rw [hnx']
  all_goals refine yAp ⟨k+1,zO⟩ (by show D.und.length-(k+1)<D.und.length-k;omega) xB (xN)
 ·have hkl:k=D.und.length:=by omega
  subst hkl
  rw [List.take_length]
  repeat' (first|refine yWf ?_;refine yAa (yTL rfl rfl hw1) ?_|refine xst ?_|refine xsa ?_;intro _|refine xsb ?_ ?_<;>intro _<;>try omega|refine xsc ?_|refine xdr 9 yM8 ?_|refine xsd ?_ ?_|exact Rech.nil|fail)
  all_goals refine yBA (by first|exact Or.inl rfl|exact Or.inr rfl) rfl (by (repeat' (first|exact Rvs.nil|(apply Rvs.tmp;exact rfl)));first|done|fail) (by rfl) (.slice (some ⟨gs,0,none⟩) D.n c) (.slice none 0 0) (fun g q=>?_)
  all_goals (have e9:yCH p ({ G with img:=yBe D.img D.und,und:=[],flushes:=w64 (D.flushes+1) }:Dsk) (.slice (some ⟨gs,0,none⟩) D.n c,.slice none 0 0)=[yAi p [.slice (some ⟨gs,0,none⟩) D.n c,.slice none 0 0,.bool G.off,.bool (decide (0≤G.armed)),.int .i64 (max G.armed 0),.int .i64 G.writes,.int .i64 (w64 (D.flushes+1)),.int .i64 G.life] 36,yAP (.slice (some ⟨gs,0,none⟩) D.n c) 9 1 D.n (yBj (yBe D.img D.und) D.n),yAP (.slice none 0 0) 195 2 0 []]:=by simp only [yCH,yWN,g1];rfl)
  all_goals rw [e9]
  all_goals refine yFA (H:=[yAi p [.slice (some ⟨gs,0,none⟩) D.n c,.slice none 0 0,.bool G.off,.bool (decide (0≤G.armed)),.int .i64 (max G.armed 0),.int .i64 G.writes,.int .i64 (w64 (D.flushes+1)),.int .i64 G.life] 36,yAP (.slice (some ⟨gs,0,none⟩) D.n c) 9 1 D.n (yBj (yBe D.img D.und) D.n)]) g ((xN) g q)
end
section
variable {P:Program} {W:World} {n:Nat} {E:Env} {H R:List SP} {x y z:Operand} {t:TypeId} {p off:Nat} {D:Dsk} {k:KK}
theorem yEz {v:Value} (hx:Env.ev E x=some (.pointer (some ⟨p,off,none⟩))) [hu:ScIs P t] (hs:Sel (yBc p D) H R)
 (hv:∀ sv wv:Value,[sv,wv,.bool D.off,.bool (decide (0≤D.armed)),.int .i64 (max D.armed 0),.int .i64 D.writes,.int .i64 D.flushes,.int .i64 D.life][off]? = some v):Ev P W n E H (.load t x) v:=
 Ev.mk fun o ho a w q s=>by
  obtain ⟨⟨sv,wv⟩,s2⟩:=(s.perm hs.perm).unpack
  have s3:St W (yAi p [sv,wv,.bool D.off,.bool (decide (0≤D.armed)),.int .i64 (max D.armed 0),.int .i64 D.writes,.int .i64 D.flushes,.int .i64 D.life] 36::(yAP sv 9 1 D.n (yBj D.img D.n)::yAP wv 195 2 D.und.length (yBI D.und)::R)) w:=s2
  have hc:w.cell? ⟨p,off,none⟩=some v:=by rw [(s3.blk .here).2.cell];exact hv sv wv
  obtain ⟨d,hu,hd⟩:=hu.h
  simp [execOp,ho,q.ev hx,yBJ w hc hu hd,Result.andThen]
theorem yHm {l r:List UInt8} {i j:Int} {ki kj:IntKind} (hx:Env.ev E x=some (strV l)) (hy:Env.ev E y=some (.int ki i)) (hz:Env.ev E z=some (.int kj j)) [hu:UIs P t .string] (hb:0≤i∧i≤j∧j≤l.length) (h:(l.take j.toNat).drop i.toNat=r):Ev P W n E H (.slice t x (some y) (some z) none) (strV r):=by
 subst h;exact yDH hx hy hz hb
end
theorem yYo (at_ stamp:Int):∀ (f:Nat) (D:Dsk) (i:Int) (v:List UInt8),D.off=true→yC0 at_ stamp f D i v=(12,D):=by
 intro f D i v h
 have h1:D.flushE=12:=by simp [Dsk.flushE,h]
 have h2:D.flushD=D:=by simp [Dsk.flushD,h]
 have h3:∀ j s,D.writeE j s=12:=fun j s=>by simp [Dsk.writeE,h]
 have h4:∀ j s,D.writeD j s=D:=fun j s=>by simp [Dsk.writeD,h]
 cases f with
 |zero=>simp [yC0,h1,h2]
 |succ f=>
  by_cases hv:v=[]
  ·simp [yC0,hv,h1,h2]
  ·simp [yC0,hv,h3,h4]
section
variable {W:World} {E:Nat→Addr} {p:Nat} {D:Dsk}
theorem yKE (at_ n stamp:Int) (hn:D.n≤65536):CtU prog W 126 [zPp p,.int .i64 at_,.int .i64 n,.int .u64 stamp] [yBc p D] (.bool (D.mayB at_ n && decide (stamp≠0))) [yBc p D]:=by
 have c1:=yVU (W:=W) (p:=p) (D:=D)
 obtain ⟨q,hq⟩:∃ q,q=(D.mayB at_ n && decide (stamp≠0)):=⟨_,rfl⟩
 rw [← hq]
 by_cases h1:0≤at_
 rotate_left
 ·have q1:decide (0≤at_)=false:=zZ h1
  have hr:q=false:=by rw [hq];unfold Dsk.mayB;simp [h1]
  rw [hr]
  refine Ct.enter func126 rfl ntmps126 zW (fun R=>?_)
  repeat' (first|refine yIR ?_;refine yAa (yAm rfl rfl q1) ?_|refine xst ?_|refine xsa ?_;intro _|refine xsb ?_ ?_<;>intro _<;>try omega|refine xsc ?_|exact xdn ()|fail)
 have q1:decide (0≤at_)=true:=zY h1
 by_cases h2:0≤n
 rotate_left
 ·have q2:decide (0≤n)=false:=zZ h2
  have hr:q=false:=by rw [hq];unfold Dsk.mayB;simp [h2]
  rw [hr]
  refine Ct.enter func126 rfl ntmps126 zW (fun R=>?_)
  repeat' (first|(refine yIR ?_;first|refine yAa (yAm rfl rfl q1) ?_|refine yAa (yAm rfl rfl q2) ?_)|refine xst ?_|refine xsa ?_;intro _|refine xsb ?_ ?_<;>intro _<;>try omega|refine xsc ?_|exact xdn ()|fail)
 have q2:decide (0≤n)=true:=zY h2
 by_cases h3:at_≤D.n
 rotate_left
 ·have q3:decide (at_≤(D.n:Int))=false:=zZ h3
  have hr:q=false:=by rw [hq];unfold Dsk.mayB;simp [h3]
  rw [hr]
  refine Ct.enter func126 rfl ntmps126 zW (fun R=>?_)
  repeat' (first|refine yAb ?_;refine xca c1 fun _=>?_|refine yMe ?_;refine yAa (yAS rfl rfl q3) ?_|(refine yIR ?_;first|refine yAa (yAm rfl rfl q1) ?_|refine yAa (yAm rfl rfl q2) ?_)|refine xst ?_|refine xsa ?_;intro _|refine xsb ?_ ?_<;>intro _<;>try omega|refine xsc ?_|exact xdn ()|fail)
 have q3:decide (at_≤(D.n:Int))=true:=zY h3
 by_cases h4:n≤(D.n:Int)-at_
 rotate_left
 ·have q4:decide (n≤(D.n:Int)-at_)=false:=zZ h4
  have hr:q=false:=by rw [hq];unfold Dsk.mayB;simp [h4]
  rw [hr]
  refine Ct.enter func126 rfl ntmps126 zW (fun R=>?_)
  repeat' (first|refine yAb ?_;refine xca c1 fun _=>?_|(refine yMe ?_;first|refine yAa (yAS rfl rfl q3) ?_|refine yAa (yAS rfl rfl q4) ?_)|(refine yIR ?_;first|refine yAa (yAm rfl rfl q1) ?_|refine yAa (yAm rfl rfl q2) ?_)|refine xst ?_|refine xsa ?_;intro _|refine xsb ?_ ?_<;>intro _<;>try omega|refine xsc ?_|exact xdn ()|fail)
 have q4:decide (n≤(D.n:Int)-at_)=true:=zY h4
 have hm:D.mayB at_ n=true:=by unfold Dsk.mayB;simp [h1,h2,h3,h4]
 by_cases h5:stamp=0
 ·have hr:q=false:=by rw [hq,hm];simp [h5]
  rw [hr]
  refine Ct.enter func126 rfl ntmps126 zW (fun R=>?_)
  repeat' (first|refine yAb ?_;refine xca c1 fun _=>?_|refine yD3 ?_;refine yAa (yAv rfl rfl h5) ?_|(refine yMe ?_;first|refine yAa (yAS rfl rfl q3) ?_|refine yAa (yAS rfl rfl q4) ?_)|(refine yIR ?_;first|refine yAa (yAm rfl rfl q1) ?_|refine yAa (yAm rfl rfl q2) ?_)|refine xst ?_|refine xsa ?_;intro _|refine xsb ?_ ?_<;>intro _<;>try omega|refine xsc ?_|exact xdn ()|fail)
 ·have hr:q=true:=by rw [hq,hm];simp [h5]
  rw [hr]
  refine Ct.enter func126 rfl ntmps126 zW (fun R=>?_)
  repeat' (first|refine yAb ?_;refine xca c1 fun _=>?_|refine yD3 ?_;refine yAa (yA0 rfl rfl h5) ?_|(refine yMe ?_;first|refine yAa (yAS rfl rfl q3) ?_|refine yAa (yAS rfl rfl q4) ?_)|(refine yIR ?_;first|refine yAa (yAm rfl rfl q1) ?_|refine yAa (yAm rfl rfl q2) ?_)|refine xst ?_|refine xsa ?_;intro _|refine xsb ?_ ?_<;>intro _<;>try omega|refine xsc ?_|exact xdn ()|fail)
theorem yQX (hok:D.ok) (hul:D.und.length+65536<1073741823) (at_ n:Int) (st:Nat) (hst:st<2 ^ 64) (v:List UInt8):CtU prog W 78 [zPp p,.int .i64 at_,.int .i64 n,.int .u64 (st:Nat),strV v] [yBc p D] (.int .i64 ((yA7 D at_ n st v).1:Nat)) [yBc p (yA7 D at_ n st v).2]:=by
 have hn:=hok.n2
 have c1:=yKE (W:=W) (p:=p) at_ n (st:Nat) hn
 by_cases hp:(D.mayB at_ n && decide ((st:Int)≠0))=false
 ·have e:yA7 D at_ n st v=(6,D):=by
   unfold yA7
   by_cases h1:D.mayB at_ n=false
   ·rw [if_pos h1]
   ·rw [if_neg h1,if_pos (by simp at h1;rw [h1] at hp;simpa using hp)]
  rw [e]
  rw [hp] at c1
  refine Ct.enter func78 rfl ntmps78 zW (fun R=>?_)
  repeat' (first|refine yAb ?_;refine xca c1 fun _=>?_|refine xst ?_|refine xsa ?_;intro _|refine xsb ?_ ?_<;>intro _<;>try omega|refine xsc ?_|exact xdn ()|fail)
 have hp:(D.mayB at_ n && decide ((st:Int)≠0))=true:=by simpa using hp
 rw [hp] at c1
 have h1:D.mayB at_ n=true:=by rw [zLw] at hp;exact hp.1
 have h2:st≠0:=by rw [zLw] at hp;have:=of_decide_eq_true hp.2;omega
 have c2:=yMH (W:=W) n
 by_cases h3:yCb n<(v.length:Int)
 ·have e:yA7 D at_ n st v=(3,D):=by unfold yA7;rw [if_neg (by rw [h1];simp),if_neg zO,if_pos h3]
  rw [e]
  have q3:decide (yCb n<(v.length:Int))=true:=zY h3
  refine Ct.enter func78 rfl ntmps78 zW (fun R=>?_)
  repeat' (first|(refine yAb ?_;first|refine xca c2 fun _=>?_|refine xca c1 fun _=>?_)|refine yF5 ?_;refine yAa (yAe rfl rfl q3) ?_|refine xst ?_|refine xsa ?_;intro _|refine xsb ?_ ?_<;>intro _<;>try omega|refine xsc ?_|exact xdn ()|fail)
 have q3:decide (yCb n<(v.length:Int))=false:=zZ h3
 have hW:yA7 D at_ n st v=yC0 at_ st v.length D ((0:Nat):Int) (v.drop (234*0)):=by
  unfold yA7
  rw [if_neg (by rw [h1];simp),if_neg zO,if_neg h3]
  by_cases h4:D.off=true
  ·rw [if_pos h4,yYo _ _ _ _ _ _ h4]
  ·rw [if_neg h4];rfl
 rw [hW]
 obtain ⟨res,hres⟩:∃ res,res=yC0 at_ st v.length D ((0:Nat):Int) (v.drop (234*0)):=⟨_,rfl⟩
 rw [← hres]
 have hat:0≤at_∧at_≤65536:=by
  unfold Dsk.mayB at h1
  have:=of_decide_eq_true h1
  omega
 have hvl:v.length≤234*65536:=by unfold yCb at h3;omega
 clear hW
 refine Ct.enter func78 rfl ntmps78 zW (fun R=>?_)
 repeat' (first|(refine yAb ?_;first|refine xca c2 fun _=>?_|refine xca c1 fun _=>?_)|refine yF5 ?_;refine yAa (yAe rfl rfl q3) ?_|refine xst ?_|refine xsa ?_;intro _|refine xsb ?_ ?_<;>intro _<;>try omega|refine xsc ?_|fail)
 refine yAz (fun i:{s:Nat × Nat × Dsk//yC0 at_ st s.2.1 s.2.2 (s.1:Nat) (v.drop (234*s.1))=res∧s.2.2.ok∧s.2.2.und.length≤D.und.length+s.1∧v.length≤234*(s.1+s.2.1)∧s.1≤65536}=>
  [(0,zPp p),(1,.int .i64 at_),(3,.int .u64 (st:Nat)),(4,strV v),(12,.int .i64 (i.1.1:Nat))]) (fun i=>[yBc p i.1.2.2]++R) (fun i=>i.1.2.1) ⟨(0,v.length,D),hres.symm,hok,by dsimp only;omega,by dsimp only;omega,by dsimp only;omega⟩ xB (xN) (fun ⟨(k,f,Dk),hr,hkk,hu,hf,hk⟩=>?_)
 dsimp only at hr hkk hu hf hk ⊢
 by_cases hlt:234*k<v.length
 rotate_left
 ·have hnil:v.drop (234*k)=[]:=zLl zO
  rw [hnil,yIv] at hr
  have ql:decide ((k:Int)*234<(v.length:Int))=false:=zZ zO
  have hD2:res.2=Dk.flushD:=by rw [← hr]
  have hE2:res.1=Dk.flushE:=by rw [← hr]
  rw [hD2,hE2]
  have c4:=yNb (W:=W) (p:=p) hkk zO
  repeat' (first|refine yAb ?_;refine xca c4 fun _=>?_|refine yFg ?_;refine yAa (yAc rfl rfl ql) ?_|refine xst ?_|refine xsa ?_;intro _|refine xsb ?_ ?_<;>intro _<;>try omega|refine xsc ?_|exact xdn ()|fail)
 have ql:decide ((k:Int)*234<(v.length:Int))=true:=zY zO
 obtain ⟨f',rfl⟩:∃ f',f=f'+1:=⟨f-1,zO⟩
 have hne:v.drop (234*k)≠[]:=by
  intro q
  have:=congrArg List.length q
  rw [zLf] at this
  simp at this
  omega
 obtain ⟨pc,hpc⟩:∃ pc,pc=(v.drop (234*k)).take 234:=⟨_,rfl⟩
 have hunf:yC0 at_ st (f'+1) Dk (k:Nat) (v.drop (234*k))=if Dk.writeE (at_+(k:Nat)) (yAx st pc)≠0 then (Dk.writeE (at_+(k:Nat)) (yAx st pc),Dk.writeD (at_+(k:Nat)) (yAx st pc))
  else yC0 at_ st f' (Dk.writeD (at_+(k:Nat)) (yAx st pc)) ((k+1:Nat):Int) (v.drop (234*(k+1))):=by
  show (if v.drop (234*k)=[] then _ else _)=_
  rw [if_neg hne,← hpc,List.drop_drop,show 234*k+234=234*(k+1) by omega]
  rfl
 rw [hunf] at hr
 clear hunf
 obtain ⟨hi,hhi⟩:∃ hi:Nat,hi=min ((k+1)*234) v.length:=⟨_,rfl⟩
 have hmin:min (((k:Int)+1)*234) (v.length:Int)=(hi:Nat):=zO
 have hslc:(v.take ((hi:Nat):Int).toNat).drop ((k:Int)*234).toNat=pc:=by
  rw [zLe,show ((k:Int)*234).toNat=234*k by omega,hpc,List.drop_take,hhi]
  apply List.take_eq_take_iff.2
  rw [zLf]
  omega
 have hpl:pc.length≤234:=by rw [hpc,zLg];omega
 have c5:=yLQ (W:=W) st h2 hst pc hpl
 have c6:=yNa (W:=W) (p:=p) hkk (at_+(k:Nat)) (yAx st pc) zO
 have hu1:=yEp Dk (at_+(k:Nat)) (yAx st pc)
 have hk1:=Dsk.writeD_ok hkk (at_+(k:Nat)) (yAx st pc)
 obtain ⟨D1,hD1⟩:∃ D1,D1=Dk.writeD (at_+(k:Nat)) (yAx st pc):=⟨_,rfl⟩
 obtain ⟨e,he⟩:∃ e,e=Dk.writeE (at_+(k:Nat)) (yAx st pc):=⟨_,rfl⟩
 obtain ⟨raw,hraw⟩:∃ raw,raw=yAx st pc:=⟨_,rfl⟩
 rw [← hD1] at c6 hr hu1 hk1
 rw [← he] at c6 hr
 rw [← hraw] at c5 c6
 clear hpc hD1 he hraw hres
 have hbk:0≤(k:Int)∧(k:Int)≤65535:=zO
 by_cases hz:e=0
 ·rw [if_neg (by simpa using hz)] at hr
  repeat' (first|(refine yAb ?_;first|refine xca c6 fun _=>?_|refine xca c5 fun _=>?_)|refine yAQ ?_;refine yAa (yHm rfl rfl rfl zO hslc) ?_|refine yMc ?_;refine yAa (yB1 rfl rfl hmin) ?_|refine yD3 ?_;refine yAa (yAv rfl rfl zO) ?_|refine yFg ?_;refine yAa (yAc rfl rfl ql) ?_|refine xst ?_|refine xsa ?_;intro _|refine xsb ?_ ?_<;>intro _<;>try omega|refine xsc ?_|fail)
  all_goals exact yAp ⟨(k+1,f',D1),hr,hk1,by dsimp only;omega,by dsimp only;omega,by dsimp only;omega⟩ (by show f'<f'+1;omega) xB (xN)
 ·rw [if_pos hz] at hr
  have hD2:res.2=D1:=by rw [← hr]
  have hE2:res.1=e:=by rw [← hr]
  rw [hD2,hE2]
  repeat' (first|(refine yAb ?_;first|refine xca c6 fun _=>?_|refine xca c5 fun _=>?_)|refine yAQ ?_;refine yAa (yHm rfl rfl rfl zO hslc) ?_|refine yMc ?_;refine yAa (yB1 rfl rfl hmin) ?_|refine yD3 ?_;refine yAa (yA0 rfl rfl zO) ?_|refine yFg ?_;refine yAa (yAc rfl rfl ql) ?_|refine xst ?_|refine xsa ?_;intro _|refine xsb ?_ ?_<;>intro _<;>try omega|refine xsc ?_|exact xdn ()|fail)
theorem yFB (hok:D.ok) (hul:D.und.length<1073741824) (at_ n:Int) (st:Nat) (hst:st<2 ^ 64) (bytes:Int):CtU prog W 109 [zPp p,.int .i64 at_,.int .i64 n,.int .u64 (st:Nat),.int .i64 bytes] [yBc p D] (.tuple #[strV (yBH D at_ n st bytes).1,.int .i64 ((yBH D at_ n st bytes).2:Nat)]) [yBc p D]:=by
 have hn:=hok.n2
 have c1:=yKE (W:=W) (p:=p) at_ n (st:Nat) hn
 by_cases hp:(D.mayB at_ n && decide ((st:Int)≠0))=false
 ·have e:yBH D at_ n st bytes=([],6):=by
   unfold yBH
   by_cases h1:D.mayB at_ n=false
   ·rw [if_pos h1]
   ·rw [if_neg h1,if_pos (by simp at h1;rw [h1] at hp;simpa using hp)]
  rw [e]
  rw [hp] at c1
  refine Ct.enter func109 rfl ntmps109 zW (fun R=>?_)
  repeat' (first|refine yAb ?_;refine xca c1 fun _=>?_|refine xst ?_|refine xsa ?_;intro _|refine xsb ?_ ?_<;>intro _<;>try omega|refine xsc ?_|exact xdn ()|fail)
 have hp:(D.mayB at_ n && decide ((st:Int)≠0))=true:=by simpa using hp
 rw [hp] at c1
 have h1:D.mayB at_ n=true:=by rw [zLw] at hp;exact hp.1
 have h2:st≠0:=by rw [zLw] at hp;have:=of_decide_eq_true hp.2;omega
 by_cases hb:bytes<0
 ·have e:yBH D at_ n st bytes=([],6):=by unfold yBH;rw [if_neg (by rw [h1];simp),if_neg zO,if_pos hb]
  rw [e]
  have qb:decide (bytes<0)=true:=zY hb
  refine Ct.enter func109 rfl ntmps109 zW (fun R=>?_)
  repeat' (first|refine yAb ?_;refine xca c1 fun _=>?_|refine yFg ?_;refine yAa (yAc rfl rfl qb) ?_|refine xst ?_|refine xsa ?_;intro _|refine xsb ?_ ?_<;>intro _<;>try omega|refine xsc ?_|exact xdn ()|fail)
 have qb:decide (bytes<0)=false:=zZ hb
 have c2:=yMH (W:=W) n
 by_cases h3:yCb n<bytes
 ·have e:yBH D at_ n st bytes=([],3):=by unfold yBH;rw [if_neg (by rw [h1];simp),if_neg zO,if_neg hb,if_pos h3]
  rw [e]
  have q3:decide (yCb n<bytes)=true:=zY h3
  refine Ct.enter func109 rfl ntmps109 zW (fun R=>?_)
  repeat' (first|(refine yAb ?_;first|refine xca c2 fun _=>?_|refine xca c1 fun _=>?_)|refine yFg ?_;refine yAa (yAc rfl rfl qb) ?_|refine yF5 ?_;refine yAa (yAe rfl rfl q3) ?_|refine xst ?_|refine xsa ?_;intro _|refine xsb ?_ ?_<;>intro _<;>try omega|refine xsc ?_|exact xdn ()|fail)
 have q3:decide (yCb n<bytes)=false:=zZ h3
 rcases Bool.eq_false_or_eq_true D.off with h4|h4
 ·have e:yBH D at_ n st bytes=([],12):=by unfold yBH;rw [if_neg (by rw [h1];simp),if_neg zO,if_neg hb,if_neg h3,if_pos h4]
  rw [e]
  have hoff:∀ sv wv:Value,[sv,wv,.bool D.off,.bool (decide (0≤D.armed)),.int .i64 (max D.armed 0),.int .i64 D.writes,.int .i64 D.flushes,.int .i64 D.life][0+2]? = some (Value.bool true):=fun sv wv=>by rw [h4];rfl
  refine Ct.enter func109 rfl ntmps109 zW (fun R=>?_)
  repeat' (first|(refine yAb ?_;first|refine xca c2 fun _=>?_|refine xca c1 fun _=>?_)|refine yAj ?_;refine yAa (yEz rfl xS hoff) ?_|refine yFg ?_;refine yAa (yAc rfl rfl qb) ?_|refine yF5 ?_;refine yAa (yAe rfl rfl q3) ?_|refine xst ?_|refine xsa ?_;intro _|refine xsb ?_ ?_<;>intro _<;>try omega|refine xsc ?_|exact xdn ()|fail)
 have hoff:∀ sv wv:Value,[sv,wv,.bool D.off,.bool (decide (0≤D.armed)),.int .i64 (max D.armed 0),.int .i64 D.writes,.int .i64 D.flushes,.int .i64 D.life][0+2]? = some (Value.bool false):=fun sv wv=>by rw [h4];rfl
 obtain ⟨S,hS⟩:∃ S,S=(yBR bytes).toNat:=⟨_,rfl⟩
 have hR:yBH D at_ n st bytes=yLs D at_ st bytes S 0 []:=by rw [hS];unfold yBH;rw [if_neg (by rw [h1];simp),if_neg zO,if_neg hb,if_neg h3,if_neg (by rw [h4];simp)]
 rw [hR]
 have hbr:bytes≤234*65536:=by unfold yCb at h3;omega
 have hSI:S=(bytes.toNat+233) / 234:=by
  rw [hS]
  unfold yBR
  split <;> omega
 obtain ⟨res,hres⟩:∃ res,res=yLs D at_ st bytes S 0 []:=⟨_,rfl⟩
 rw [← hres]
 obtain ⟨hat,hatn,hn0⟩:(0≤at_∧at_≤65536)∧n≤(D.n:Int)-at_∧0≤n:=by
  unfold Dsk.mayB at h1
  have:=of_decide_eq_true h1
  omega
 have hbn:bytes≤234*n:=by unfold yCb at h3;omega
 clear hR hS
 refine Ct.enter func109 rfl ntmps109 zW (fun R=>?_)
 repeat' (first|(refine yAb ?_;first|refine xca c2 fun _=>?_|refine xca c1 fun _=>?_)|refine yAF ?_;refine yDB rfl (fun g0=>?_)|refine yAj ?_;refine yAa (yEz rfl xS hoff) ?_|refine yFg ?_;refine yAa (yAc rfl rfl qb) ?_|refine yF5 ?_;refine yAa (yAe rfl rfl q3) ?_|refine xst ?_|refine xsa ?_;intro _|refine xsb ?_ ?_<;>intro _<;>try omega|refine xsc ?_|fail)
 refine yAz (fun i:{s:Nat × List UInt8 × Nat × Nat//yLs D at_ st bytes (S-s.1) s.1 s.2.1=res∧s.1≤S∧(s.2.1.length:Int)=min (234*(s.1:Int)) bytes}=>
  [(0,zPp p),(1,.int .i64 at_),(3,.int .u64 (st:Nat)),(4,.int .i64 bytes),(13,.slice (some ⟨i.1.2.2.1,0,none⟩) i.1.2.1.length i.1.2.2.2),(14,.int .i64 (i.1.1:Nat))])
  (fun i=>[yBc p D,yAP (.slice (some ⟨i.1.2.2.1,0,none⟩) i.1.2.1.length i.1.2.2.2) 5 1 i.1.2.1.length (bvs i.1.2.1)]++R) (fun i=>S-i.1.1) ⟨(0,[],g0,0),hres.symm,by dsimp only;omega,by dsimp only [List.length];omega⟩ xB (xN) (fun ⟨(i,acc,g,c),hr,hi,hal⟩=>?_)
 dsimp only at hr hi hal ⊢
 by_cases hlt:i<S
 rotate_left
 ·have hiS:i=S:=by omega
  subst hiS
  rw [Nat.sub_self] at hr
  have ql:decide ((acc.length:Int)<bytes)=false:=zZ zO
  have hE2:res.2=0:=by rw [← hr];rfl
  have hS2:res.1=acc:=by rw [← hr];rfl
  rw [hE2,hS2]
  repeat' (first|refine yEf ?_;refine yAa (yEM rfl xS) ?_|refine yFg ?_;refine yAa (yAc rfl rfl ql) ?_|refine xst ?_|refine xsa ?_;intro _|refine xsb ?_ ?_<;>intro _<;>try omega|refine xsc ?_|exact xdn ()|fail)
 have ql:decide ((acc.length:Int)<bytes)=true:=zY zO
 obtain ⟨f,hf⟩:∃ f,S-i=f+1:=⟨S-i-1,zO⟩
 have hf2:S-(i+1)=f:=zO
 rw [hf] at hr
 have hhas:D.has (at_+(i:Nat))=true:=by unfold Dsk.has;exact zY zO
 have hE0:D.readE (at_+(i:Nat))=0:=by unfold Dsk.readE;rw [h4,hhas];rfl
 have hunf:yLs D at_ st bytes (f+1) i acc=if D.readE (at_+(i:Nat))≠0 then ([],D.readE (at_+(i:Nat))) else
  match yBU st (D.readS (at_+(i:Nat))) with
  |none=>([],15)
  |some pc=>if (pc.length:Int)≠min (bytes-i*234) 234 then ([],15) else yLs D at_ st bytes f (i+1) (acc++pc):=rfl
 rw [hunf,if_neg (by rw [hE0];simp)] at hr
 clear hunf
 have c6:=yJL (W:=W) (p:=p) hok (at_+(i:Nat)) hul
 rw [hE0] at c6
 have c7:=yLR (W:=W) st hst (D.readS (at_+(i:Nat)))
 obtain ⟨raw,hraw⟩:∃ raw,raw=D.readS (at_+(i:Nat)):=⟨_,rfl⟩
 rw [← hraw] at c6 c7 hr
 clear hraw
 obtain ⟨o,ho⟩:∃ o,o=yBU st raw:=⟨_,rfl⟩
 rw [← ho] at c7 hr
 clear ho
 have hbi:0≤(i:Int)∧(i:Int)≤65535:=zO
 cases o with
 |none=>
  have hE2:res.2=15:=by rw [← hr]
  have hS2:res.1=[]:=by rw [← hr]
  rw [hE2,hS2]
  have c7':CtU prog W 151 [.int .u64 (st:Nat),strV raw] [] (.tuple #[strV [],.bool false]) []:=c7
  repeat' (first|(refine yAb ?_;first|refine xca c7' fun _=>?_|refine xca c6 fun _=>?_)|refine yFg ?_;refine yAa (yAc rfl rfl ql) ?_|refine xst ?_|refine xsa ?_;intro _|refine xsb ?_ ?_<;>intro _<;>try omega|refine xsc ?_|exact xdn ()|fail)
 |some pc=>
  dsimp only at hr
  have c7':CtU prog W 151 [.int .u64 (st:Nat),strV raw] [] (.tuple #[strV pc,.bool true]) []:=c7
  obtain ⟨m,hm⟩:∃ m,m=min (bytes-(i:Int)*234) 234:=⟨_,rfl⟩
  have hm2:min 234 (bytes-(acc.length:Int))=m:=zO
  rw [← hm] at hr
  by_cases hl:(pc.length:Int)=m
  rotate_left
  ·rw [if_pos hl] at hr
   have hE2:res.2=15:=by rw [← hr]
   have hS2:res.1=[]:=by rw [← hr]
   rw [hE2,hS2]
   repeat' (first|(refine yAb ?_;first|refine xca c7' fun _=>?_|refine xca c6 fun _=>?_)|refine yMc ?_;refine yAa (yB1 rfl rfl hm2) ?_|refine yD3 ?_;refine yAa (yA0 rfl rfl hl) ?_|refine yFg ?_;refine yAa (yAc rfl rfl ql) ?_|refine xst ?_|refine xsa ?_;intro _|refine xsb ?_ ?_<;>intro _<;>try omega|refine xsc ?_|exact xdn ()|fail)
  rw [if_neg (by simpa using hl)] at hr
  repeat' (first|(refine yAb ?_;first|refine xca c7' fun _=>?_|refine xca c6 fun _=>?_)|refine yAH ?_;refine yD6 rfl rfl xS (.inr rfl) zO rfl (fun g2 c2=>?_)|refine yMc ?_;refine yAa (yB1 rfl rfl hm2) ?_|refine yWf ?_;refine yAa (yAd (r:=((i+1:Nat):Int)) rfl rfl zO zO) ?_|refine yD3 ?_;refine yAa (yAv rfl rfl hl) ?_|refine yFg ?_;refine yAa (yAc rfl rfl ql) ?_|refine xst ?_|refine xsa ?_;intro _|refine xsb ?_ ?_<;>intro _<;>try omega|refine xsc ?_|fail)
  refine yAp ⟨(i+1,acc++pc,g2,c2),by dsimp only;rw [hf2];exact hr,by dsimp only;omega,by dsimp only;rw [zLa];omega⟩ (by show S-(i+1)<S-i;omega) ?_ ?_
  ·dsimp only
   rw [zLa]
   exact xB
  ·have ebv:bvs acc++bvs pc=bvs (acc++pc):=by simp [bvs]
   dsimp only
   rw [ebv,zLa]
   exact (xN)
end
section
variable {P:Program} {W:World} {n:Nat} {E:Env} {H:List SP} {x y z:Operand} {t:TypeId}
theorem yTN {u:TypeId} {i j r:Int} (hx:Env.ev E x=some (.int .i64 i)) (hy:Env.ev E y=some (.int .i64 j)) (hb:0≤i∧i≤9223372036854775807∧0<j) (h:i / j=r):Ev P W n E H (.binOp .quo t x y u) (.int .i64 r):=by
 subst h;exact yKQ hx hy hb
theorem yLS {l r:List UInt8} {i j:Int} {ki kj:IntKind} (hx:Env.ev E x=some (strV l)) (hy:Env.ev E y=some (.int ki i)) (hz:Env.ev E z=some (.int kj j)) [hu:UIs P t .string] (hb:0≤i∧i≤j∧j≤l.length) (h:(l.take j.toNat).drop i.toNat=r):Ev P W n E H (.slice t x (some y) (some z) none) (strV r):=by
 subst h;exact yDH hx hy hz hb
end
theorem yQY (l:List UInt8) (i:Nat):yBj l (i+1)=yBj l i++[strV (cut l (i*256) 256)]:=by simp [yBj,List.range_succ]
section
variable {W:World}
theorem yQZ (l:List UInt8) (hl:l.length % 256≠0):CtU prog W 6 [strV l] [] (.tuple #[.pointer none,.int .i64 7]) []:=by
 have q1:((l.length:Nat):Int) % 256≠0:=zO
 refine Ct.enter func6 rfl ntmps6 zW (fun R=>?_)
 repeat' (first|refine yD3 ?_;refine yAa (yA0 rfl rfl q1) ?_|refine xst ?_|refine xsa ?_;intro _|refine xsb ?_ ?_<;>intro _<;>try omega|refine xsc ?_|refine xdr 10 yKD ?_|refine xsd ?_ ?_|exact Rech.nil|exact xdn ()|fail)
theorem yOB (l:List UInt8) (hl:l.length % 256=0) (hlb:l.length≤9223372036854775807) (h:l.length / 256<1∨65536<l.length / 256):CtU prog W 6 [strV l] [] (.tuple #[.pointer none,.int .i64 6]) []:=by
 have q1:((l.length:Nat):Int) % 256=0:=zO
 by_cases h1:l.length / 256<1
 ·have q2:decide (((l.length:Nat):Int) / 256<1)=true:=zY zO
  refine Ct.enter func6 rfl ntmps6 zW (fun R=>?_)
  repeat' (first|refine yD3 ?_;refine yAa (yAv rfl rfl q1) ?_|refine yFg ?_;refine yAa (yAc rfl rfl q2) ?_|refine xst ?_|refine xsa ?_;intro _|refine xsb ?_ ?_<;>intro _<;>try omega|refine xsc ?_|refine xdr 10 yKD ?_|refine xsd ?_ ?_|exact Rech.nil|exact xdn ()|fail)
 ·have q2:decide (((l.length:Nat):Int) / 256<1)=false:=zZ zO
  have q3:decide (65536<((l.length:Nat):Int) / 256)=true:=zY zO
  refine Ct.enter func6 rfl ntmps6 zW (fun R=>?_)
  repeat' (first|refine yD3 ?_;refine yAa (yAv rfl rfl q1) ?_|refine yFg ?_;refine yAa (yAc rfl rfl q2) ?_|refine yF5 ?_;refine yAa (yAe rfl rfl q3) ?_|refine xst ?_|refine xsa ?_;intro _|refine xsb ?_ ?_<;>intro _<;>try omega|refine xsc ?_|refine xdr 10 yKD ?_|refine xsd ?_ ?_|exact Rech.nil|exact xdn ()|fail)
theorem yVV (l:List UInt8) (n:Nat) (hl:l.length=n*256) (h1:1≤n) (h2:n≤65536):Ct prog W 6 [strV l] [] (fun p:Nat=>.tuple #[zPp p,.int .i64 0]) (fun p=>[yBc p (Dsk.of l)]):=by
 have q1:((l.length:Nat):Int) % 256=0:=zO
 have qn:((l.length:Nat):Int) / 256=(n:Nat):=zO
 have q2:decide ((n:Int)<1)=false:=zZ zO
 have q3:decide (65536<(n:Int))=false:=zZ zO
 refine Ct.enter func6 rfl ntmps6 zW (fun R=>?_)
 repeat' (first|refine yA4 ?_;refine yA3 rfl xF rfl (fun p=>?_)|refine yAB ?_;refine yAa (yAC xV xW) ?_|refine yDK ?_;refine yAa (yTN rfl rfl zO qn) ?_|refine yD3 ?_;refine yAa (yAv rfl rfl q1) ?_|refine yFg ?_;refine yAa (yAc rfl rfl q2) ?_|refine yF5 ?_;refine yAa (yAe rfl rfl q3) ?_|refine xst ?_|refine xsa ?_;intro _|refine xsb ?_ ?_<;>intro _<;>try omega|refine xsc ?_|refine xdr 10 yKD ?_|refine xsd ?_ ?_|exact Rech.nil|fail)
 refine yAz (fun i:{x:Nat × Value//x.1≤n}=>[(0,strV l),(4,.int .i64 (n:Nat)),(5,zPp p),(6,.int .i64 (i.1.1:Nat))])
  (fun i=>[yAi p [i.1.2,.slice none 0 0,.bool false,.bool false,.int .i64 0,.int .i64 0,.int .i64 0,.int .i64 0] 36]++[yAP i.1.2 9 1 i.1.1 (yBj l i.1.1)]++R) (fun i=>n-i.1.1) ⟨(0,.slice none 0 0),zO⟩ xB (fun g q=>yFA (H:=[yAi p [.slice none 0 0,.slice none 0 0,.bool false,.bool false,.int .i64 0,.int .i64 0,.int .i64 0,.int .i64 0] 36]) g ((xN) g q)) (fun ⟨⟨k,sv⟩,hk⟩=>?_)
 dsimp only at hk ⊢
 by_cases hlt:k<n
 ·have hnx:=(yQY l k).symm
  have hcut:(l.take (((k*256+256:Nat):Int)).toNat).drop (((k*256:Nat):Int)).toNat=cut l (k*256) 256:=by
   rw [zLe,zLe,List.drop_take]
   unfold cut
   congr 1
   omega
  repeat' (first|refine yAH ?_;refine yCf (a2:=0) rfl rfl (by rfl) zO xS (Src.cells (i:=1) xS xC) (by rfl) zO xO zO zO rfl rfl (fun gw cw=>?_)|refine yAF ?_;refine yAI rfl xF (by rfl) zO rfl (fun _=>?_)|refine yAQ ?_;refine yAa (yLS rfl rfl rfl zO hcut) ?_|refine yWf ?_;refine yAa (yAd (r:=((k*256+256:Nat):Int)) rfl rfl zO zO) ?_|refine yRP ?_;refine yAa (yAG (r:=((k*256:Nat):Int)) rfl rfl zO zO) ?_|refine xst ?_|refine xsa ?_;intro _|refine xsb ?_ ?_<;>intro _<;>try omega|refine xsc ?_|refine xdr 10 yKD ?_|refine xsd ?_ ?_|exact Rech.nil|fail)
  all_goals rw [hnx]
  all_goals refine yAp ⟨(k+1,_),zO⟩ (by show n-(k+1)<n-k;omega) xB (xN)
 ·have hkn:k=n:=by omega
  subst hkn
  have en:(Dsk.of l).n=k:=by show l.length / 256=k;omega
  have e9:yCH p (Dsk.of l) (sv,.slice none 0 0)=[yAi p [sv,.slice none 0 0,.bool false,.bool false,.int .i64 0,.int .i64 0,.int .i64 0,.int .i64 0] 36,yAP sv 9 1 k (yBj l k)]++[yAP (.slice none 0 0) 195 2 0 []]:=by
   simp only [yCH,yWN,en];rfl
  repeat' (first|refine xst ?_|refine xsa ?_;intro _|refine xsb ?_ ?_<;>intro _<;>try omega|refine xsc ?_|refine xdr 10 yKD ?_|refine xsd ?_ ?_|exact Rech.nil|fail)
  all_goals refine yAR (by first|exact Or.inl rfl|exact Or.inr rfl) rfl (by (repeat' (first|exact Rvs.nil|(apply Rvs.tmp;exact rfl)));first|done|fail) p (by rfl) (fun g q=>yDM (F:=yCH p (Dsk.of l)) (sv,.slice none 0 0) g ?_)
  all_goals rw [e9]
  all_goals exact yFA g ((xN) g q)
end
end Go.Proofs.YtlnbkbfblhofbaaGreatDoor
