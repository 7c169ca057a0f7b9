/-
  Mor2, Gen, AvP.
-/
import Derived.Test.YtlnbkbfblhofbaaGreatDoorVBC
import Derived.Test.YtlnbkbfblhofbaaGreatDoorVCK
set_option maxHeartbeats 64000000
namespace Go.Proofs.YtlnbkbfblhofbaaGreatDoor
open Go Go.RowKit
section
variable {P:Program} {W:World} {n d:Nat} {E:Env} {H H' R:List SP} {t u e:TypeId} {x y z:Operand} {T:TypeId} {b off:Nat} {k:KK}
theorem yWk {kd:IntKind} {i j:Int} (hx:Env.ev E x=some (.int kd i)) (hy:Env.ev E y=some (.int kd j)):Ev P W n E H (.binOp .xor t x y u) (.int kd (bits .xor kd i j)):=yNs (.inr (.inr (.inl rfl))) hx hy fun _=>rfl
theorem yWl {kd:IntKind} {i j:Int} (hx:Env.ev E x=some (.int kd i)) (hy:Env.ev E y=some (.int kd j)):Ev P W n E H (.binOp .and t x y u) (.int kd (bits .and kd i j)):=yNs (.inl rfl) hx hy fun _=>rfl
theorem yXs {kd:IntKind} {i j:Int} (hx:Env.ev E x=some (.int kd i)) (hy:Env.ev E y=some (.int kd j)):Ev P W n E H (.binOp .or t x y u) (.int kd (bits .or kd i j)):=yNs (.inr (.inl rfl)) hx hy fun _=>rfl
theorem yUM {kd:IntKind} {i:Int} (hx:Env.ev E x=some (.int kd i)):Ev P W n E H (.unOp .xor t x) (.int kd (bits .xor kd (if kd.signed then -1 else kd.max) i)):=Ev.mk fun o ho a w p _=>by
 simp [execOp,ho,p.ev hx,Op.unary,intBits_xor]
theorem yAm {kd:IntKind} {i j:Int} {q:Bool} (hx:Env.ev E x=some (.int kd i)) (hy:Env.ev E y=some (.int kd j)) (h:decide (j≤i)=q):Ev P W n E H (.binOp .geq t x y u) (.bool q):=by
 subst h;exact yRz hx hy
theorem yAe {kd:IntKind} {i j:Int} {q:Bool} (hx:Env.ev E x=some (.int kd i)) (hy:Env.ev E y=some (.int kd j)) (h:decide (j<i)=q):Ev P W n E H (.binOp .gtr t x y u) (.bool q):=by
 subst h;exact yRy hx hy
theorem yAS {kd:IntKind} {i j:Int} {q:Bool} (hx:Env.ev E x=some (.int kd i)) (hy:Env.ev E y=some (.int kd j)) (h:decide (i≤j)=q):Ev P W n E H (.binOp .leq t x y u) (.bool q):=by
 subst h;exact yRx hx hy
theorem yAc {kd:IntKind} {i j:Int} {q:Bool} (hx:Env.ev E x=some (.int kd i)) (hy:Env.ev E y=some (.int kd j)) (h:decide (i<j)=q):Ev P W n E H (.binOp .lss t x y u) (.bool q):=by
 subst h;exact yRw hx hy
theorem yBl {kd:IntKind} {i j:Int} (hx:Env.ev E x=some (.int kd i)) (hy:Env.ev E y=some (.int kd j)) (h:i≠j):Ev P W n E H (.binOp .eql t x y u) (.bool false):=by
 have:=yKR (P:=P) (W:=W) (n:=n) (E:=E) (H:=H) (t:=t) (u:=u) hx hy
 rw [zZ h] at this;exact this
theorem yA0 {kd:IntKind} {i j:Int} (hx:Env.ev E x=some (.int kd i)) (hy:Env.ev E y=some (.int kd j)) (h:i≠j):Ev P W n E H (.binOp .neq t x y u) (.bool true):=by
 have:=yKS (P:=P) (W:=W) (n:=n) (E:=E) (H:=H) (t:=t) (u:=u) hx hy
 rw [zY (by exact h)] at this;exact this
theorem yQc {j:Int} {kj:IntKind} {m c s:Nat} (hx:Env.ev E x=some (.slice (some ⟨b,off,none⟩) m c)) (hz:Env.ev E z=some (.int kj j)) [hu:UIs P t (.slice e)] (hb:0≤j∧j≤c∧0<c) [hi:SzIs P e s]:Ev P W n E H (.slice t x none (some z) none) (.slice (some ⟨b,off,none⟩) j.toNat c):=
 Ev.mk fun o ho a w p _=>by
  have h1:0≤j:=zO
  have h3:¬ c=0:=zO
  have hi:=hi.h
  cases hq:P.info? e with
  |none=>simp [hq] at hi
  |some q=>
   simp [execOp,ho,p.ev hx,p.ev hz,Instr.sliceAt,Instr.slice,run_underlying hu.h,Instr.sliceBounds,Instr.sliceBound,asIntOf,h1,hb,sizeOf,typeInfo,hq,Addr.add]
theorem yMp {i:Int} {ki:IntKind} {m c s:Nat} (hx:Env.ev E x=some (.slice (some ⟨b,off,none⟩) m c)) (hy:Env.ev E y=some (.int ki i)) [hu:UIs P t (.slice e)] [hi:SzIs P e s] (hb:0≤i∧i≤m∧m≤c∧i<c):Ev P W n E H (.slice t x (some y) none none) (.slice (some ⟨b,off+i.toNat*s,none⟩) (m-i.toNat) (c-i.toNat)):=
 Ev.mk fun o ho a w p _=>by
  have h3:¬ c=i.toNat:=zO
  have h4:¬ c≤i.toNat:=zO
  have hi:=hi.h
  cases hq:P.info? e with
  |none=>simp [hq] at hi
  |some q=>
   have hi:q.size=s:=by simpa [hq] using hi
   have h5:¬ (c-i.toNat=0):=zO
   have h6:(m:Int)≤c:=zO
   simp [execOp,ho,p.ev hx,p.ev hy,Instr.sliceAt,Instr.slice,run_underlying hu.h,Instr.sliceBounds,Instr.sliceBound,asIntOf,hb,h3,sizeOf,typeInfo,hq,hi,Addr.add_mid]
theorem yQd {dT sT:TypeId} {m c:Nat} {l:List UInt8} {cs:List Value} (hx:Env.ev E x=some (.slice (some ⟨b,off,none⟩) m c)) (hy:Env.ev E y=some (strV l)) [hu:UIs P dT (.slice e)] [hi:SzIs P e 1] (hs:Sel (yAi b cs T) H R)
 (hl:l.length≤m) (hfit:off+l.length≤cs.length) (hr:Rep (yAi b cs T) (yAi b (lay cs off (bvs l)) T) H H') (hn:Nat.blt d n=true) (h:KJ W n k ((d,.int .i64 l.length)::E) H') :
 KJ W n (.oper P (.call { callee:=.builtin .copy,args:=#[x,y],argTypes:=#[dT,sT] }) (some d) k) E H:=by
 have htk:l.take m=l:=zLi hl
 refine ⟨fun a w p s o ho hd=>?_⟩
 have hrun:=yH1 (P:=P) w dT sT o.type e b off m c l cs T hu.h hi.h (s.left.blk hs).2 (by rw [htk];exact hfit)
 rw [htk] at hrun
 show uponP P o a _ ((execOp a.eval o).run P w)
 have e2:(execOp a.eval o).run P w=.ok (.value (goInt l.length)) (w.setRow b (lay cs off (bvs l)).toArray):=by
  have hrun':(Builtin.copy_ #[dT,sT] o.type #[.slice (some ⟨b,off,none⟩) m c,strV l]).run P w=.ok (goInt l.length) (w.setRow b (lay cs off (bvs l)).toArray):=hrun
  simp [execOp,ho,resolve,invoke,builtin,p.ev hx,p.ev hy,hrun',Result.andThen]
 rw [e2]
 have:=h.go _ _ (p.put (d:=some d) hn (goInt l.length)) (s.setRow (hr.app _))
 rw [← hd] at this
 exact this
end
theorem bvs_length' (l:List UInt8):(bvs l).length=l.length:=by simp [bvs]
theorem yMq (l b:List UInt8) (o:Nat) (h:o+b.length≤l.length):cut (lay l o b) o b.length=b:=by
 unfold cut lay
 rw [List.drop_left' (by simp;omega),List.take_left' rfl]
theorem yEh (l b:List UInt8) (o p m:Nat) (h:o+b.length≤l.length) (hp:p+m≤o):cut (lay l o b) p m=cut l p m:=by
 unfold cut lay
 rw [List.drop_append_of_le_length (by simp;omega),List.take_append_of_le_length (by simp;omega),List.drop_take,List.take_take,Nat.min_eq_left zO]
theorem yDa (l b:List UInt8) (o p m:Nat) (h:o+b.length≤l.length) (hp:o+b.length≤p):cut (lay l o b) p m=cut l p m:=by
 unfold cut lay
 rw [← zLd,zLG,zLl (by simp;omega)]
 simp only [List.nil_append,List.drop_drop]
 congr 2
 simp
 omega
theorem yY6 (m o n:Nat) (h:o+n≤m):cut (zs m) o n=zs n:=by
 unfold cut zs
 rw [List.drop_replicate,List.take_replicate]
 congr 1
 omega
section
variable {P:Program} {W:World} {n d:Nat} {E:Env} {H H' R:List SP} {t u e:TypeId} {x y z:Operand} {T:TypeId} {b off:Nat} {k:KK}
theorem yNP {dT sT:TypeId} {m c:Nat} {l l0 l':List UInt8} (hx:Env.ev E x=some (.slice (some ⟨b,off,none⟩) m c)) (hy:Env.ev E y=some (strV l)) [hu:UIs P dT (.slice e)] [hi:SzIs P e 1] (hs:Sel (yAi b (bvs l0) T) H R)
 (hl:l.length≤m) (hfit:off+l.length≤l0.length) (he:lay l0 off l=l') (hr:Rep (yAi b (bvs l0) T) (yAi b (bvs l') T) H H') (hn:Nat.blt d n=true) (h:KJ W n k ((d,.int .i64 l.length)::E) H') :
 KJ W n (.oper P (.call { callee:=.builtin .copy,args:=#[x,y],argTypes:=#[dT,sT] }) (some d) k) E H:=by
 have e1:bvs l'=lay (bvs l0) off (bvs l):=by rw [← he,yK4]
 rw [e1] at hr
 exact yQd hx hy hs hl (by rw [bvs_length'];exact hfit) hr hn h
theorem yMr {s:TypeId} {l:List UInt8} {m c:Nat} (hx:Env.ev E x=some (.slice (some ⟨b,0,none⟩) m c)) [hs:UIs P s (.slice e)] [he:UIs P e (.int .u8)] [hd:UIs P u .string] (hs':Sel (yAi b (bvs l) T) H R) (hm:m≤l.length):Ev P W n E H (.convert s u x) (strV (l.take m)):=by
 have h:=yGk (P:=P) (W:=W) (n:=n) (E:=E) (u:=u) hx (hs:=hs) (he:=he) (hd:=hd) hs' zO
 rw [zLo] at h
 exact h
theorem yC4 {s:TypeId} {l:List UInt8} {m c:Nat} (hx:Env.ev E x=some (.slice (some ⟨b,0,none⟩) m c)) [hs:UIs P s (.slice e)] [he:UIs P e (.int .u8)] [hd:UIs P u .string] (hs':Sel (yAi b (bvs l) T) H R) (hm:l.length=m):Ev P W n E H (.convert s u x) (strV l):=by
 have h:=yGk (P:=P) (W:=W) (n:=n) (E:=E) (u:=u) hx (hs:=hs) (he:=he) (hd:=hd) hs' zO
 rw [zLo,zLi zO] at h
 exact h
end
section
variable {P:Program} {W:World} {n:Nat} {E:Env} {H:List SP} {x:Operand}
theorem yAg {s d:TypeId} {ks kd:IntKind} {k:IntKind} {i j:Int} (hx:Env.ev E x=some (.int k i)) [hs:UIs P s (.int ks)] [hd:UIs P d (.int kd)] (h:kd.wrap i=j):Ev P W n E H (.convert s d x) (.int kd j):=by
 subst h;exact yON hx
end
inductive Tr where
 |nil
 |node (l:Tr) (k v:List UInt8) (r:Tr) (h s:Nat)
namespace Tr
def tall:Tr→Nat
 |nil=>0
 |node _ _ _ _ h _=>h
def cnt:Tr→Nat
 |nil=>0
 |node _ _ _ _ _ s=>s
def rows:Tr→Rows
 |nil=>[]
 |node l k v r _ _=>l.rows++(k,v)::r.rows
def join (l:Tr) (k v:List UInt8) (r:Tr):Tr:=node l k v r (max l.tall r.tall+1) (l.cnt+r.cnt+1)
def level (l:Tr) (k v:List UInt8) (r:Tr):Tr:=
 if r.tall+1<l.tall then match l with
  |node ll lk lv lr _ _=>if lr.tall≤ll.tall then join ll lk lv (join lr k v r) else match lr with
   |node ml mk mv mr _ _=>join (join ll lk lv ml) mk mv (join mr k v r)
   |nil=>nil
  |nil=>nil
 else if l.tall+1<r.tall then match r with
  |node rl rk rv rr _ _=>if rl.tall≤rr.tall then join (join l k v rl) rk rv rr else match rl with
   |node ml mk mv mr _ _=>join (join l k v ml) mk mv (join mr rk rv rr)
   |nil=>nil
  |nil=>nil
 else join l k v r
def get:Tr→List UInt8→Option (List UInt8)
 |nil,_=>none
 |node l k v r _ _,x=>if Op.bytesLess x k=true then l.get x else if Op.bytesLess k x=true then r.get x else some v
def put:Tr→List UInt8→List UInt8→Tr
 |nil,x,y=>join nil x y nil
 |node l k v r _ _,x,y=>if Op.bytesLess x k=true then level (l.put x y) k v r else if Op.bytesLess k x=true then level l k v (r.put x y) else join l x y r
def first:Tr→List UInt8 × List UInt8
 |nil=>([],[])
 |node nil k v _ _ _=>(k,v)
 |node l _ _ _ _ _=>l.first
def remove:Tr→List UInt8→Tr
 |nil,_=>nil
 |node l k v r _ _,x=>if Op.bytesLess x k=true then level (l.remove x) k v r else if Op.bytesLess k x=true then level l k v (r.remove x) else match l,r with
  |nil,r=>r
  |l,nil=>l
  |l,r=>level l r.first.1 r.first.2 (r.remove r.first.1)
def Ok:Tr→Prop
 |nil=>True
 |node l _ _ r h s=>l.Ok∧r.Ok∧h=max l.tall r.tall+1∧s=l.cnt+r.cnt+1∧l.tall≤r.tall+1∧r.tall≤l.tall+1
theorem t0:nil.tall=0:=rfl
theorem tn (l:Tr) (k v:List UInt8) (r:Tr) (h s:Nat):(node l k v r h s).tall=h:=rfl
theorem rn (l:Tr) (k v:List UInt8) (r:Tr) (h s:Nat):(node l k v r h s).rows=l.rows++(k,v)::r.rows:=rfl
theorem jt (l:Tr) (k v:List UInt8) (r:Tr):(join l k v r).tall=max l.tall r.tall+1:=rfl
theorem jr (l:Tr) (k v:List UInt8) (r:Tr):(join l k v r).rows=l.rows++(k,v)::r.rows:=rfl
theorem cnt_rows:∀ {t:Tr},t.Ok→t.cnt=t.rows.length
 |nil,_=>rfl
 |node l k v r h s,⟨h1,h2,_,h4,_⟩=>by
  rw [rows,zLa,zLj,← cnt_rows h1,← cnt_rows h2]
  show s=_
  omega
theorem tall_cnt:∀ {t:Tr},t.Ok→t.tall≤t.cnt
 |nil,_=>Nat.le_refl _
 |node l k v r a b,⟨h1,h2,h3,h4,_⟩=>by
  have:=tall_cnt h1
  have:=tall_cnt h2
  show a≤b
  omega
theorem ySd (l:Tr) (k v:List UInt8) (r:Tr):(join l k v r).rows=l.rows++(k,v)::r.rows:=rfl
theorem yC5 {l r:Tr} {k v:List UInt8} (hl:l.Ok) (hr:r.Ok) (h1:l.tall≤r.tall+1) (h2:r.tall≤l.tall+1):(join l k v r).Ok:=⟨hl,hr,rfl,rfl,h1,h2⟩
theorem yGR {l r:Tr} {k v:List UInt8} (hl:l.Ok) (hr:r.Ok) (h1:l.tall≤r.tall+2) (h2:r.tall≤l.tall+2) :
 (level l k v r).Ok∧(level l k v r).rows=l.rows++(k,v)::r.rows∧max l.tall r.tall≤(level l k v r).tall∧(level l k v r).tall≤max l.tall r.tall+1∧(l.tall≤r.tall+1→r.tall≤l.tall+1→(level l k v r).tall=max l.tall r.tall+1):=by
 unfold level
 split
 ·rename_i c
  cases l with
  |nil=>simp only [t0] at c;omega
  |node ll lk lv lr lh ls=>
   obtain ⟨a1,a2,a3,a4,a5,a6⟩:=hl
   simp only [tn] at c h1 h2
   dsimp only
   split
   ·rename_i c2
    refine ⟨yC5 a1 (yC5 a2 hr zO zO) ?_ ?_,?_,?_,?_,?_⟩ <;> (first|simp only [jt,tn];omega|(simp only [jr,rn,zLd,List.cons_append]))
   ·rename_i c2
    cases lr with
    |nil=>simp only [t0] at c2;omega
    |node ml mk mv mr mh ms=>
     obtain ⟨b1,b2,b3,b4,b5,b6⟩:=a2
     simp only [tn] at c2 a3 a5 a6
     refine ⟨yC5 (yC5 a1 b1 zO zO) (yC5 b2 hr zO zO) ?_ ?_,?_,?_,?_,?_⟩ <;> (first|simp only [jt,tn];omega|(simp only [jr,rn,zLd,List.cons_append]))
 ·rename_i c
  split
  ·rename_i c'
   cases r with
   |nil=>simp only [t0] at c';omega
   |node rl rk rv rr rh rs=>
    obtain ⟨a1,a2,a3,a4,a5,a6⟩:=hr
    simp only [tn] at c c' h1 h2
    dsimp only
    split
    ·rename_i c2
     refine ⟨yC5 (yC5 hl a1 zO zO) a2 ?_ ?_,?_,?_,?_,?_⟩ <;> (first|simp only [jt,tn];omega|(simp only [jr,rn,zLd,List.cons_append]))
    ·rename_i c2
     cases rl with
     |nil=>simp only [t0] at c2;omega
     |node ml mk mv mr mh ms=>
      obtain ⟨b1,b2,b3,b4,b5,b6⟩:=a1
      simp only [tn] at c2 a3 a5 a6
      refine ⟨yC5 (yC5 hl b1 zO zO) (yC5 b2 a2 zO zO) ?_ ?_,?_,?_,?_,?_⟩ <;> (first|simp only [jt,tn];omega|(simp only [jr,rn,zLd,List.cons_append]))
  ·refine ⟨yC5 hl hr zO zO,rfl,?_,?_,fun _ _=>?_⟩ <;> first|simp only [jt];done|(simp only [jt];omega)
end Tr
theorem yUN {a b:List UInt8} (h:Op.bytesLess a b=true):a≠b:=fun e=>by rw [e,yDg] at h;cases h
theorem ris_mid {A B:Rows} {p:List UInt8 × List UInt8}:RisR (A++p::B)↔RisR A∧RisR B∧(∀ a ∈ A,Op.bytesLess a.1 p.1=true)∧(∀ b ∈ B,Op.bytesLess p.1 b.1=true):=by
 unfold RisR yDL
 rw [List.pairwise_append,List.pairwise_cons]
 constructor
 ·rintro ⟨h1,⟨h2,h3⟩,h4⟩
  exact ⟨h1,h3,fun a ha=>h4 a ha p (List.mem_cons_self ..),h2⟩
 ·rintro ⟨h1,h2,h3,h4⟩
  refine ⟨h1,⟨h4,h2⟩,fun a ha b hb=>?_⟩
  rcases zLm.1 hb with e|e
  ·rw [e];exact h3 a ha
  ·exact yGN (h3 a ha) (h4 b e)
theorem yFL {r:Rows} {k:List UInt8} (h:∀ q ∈ r,Op.bytesLess q.1 k=true):lk r k=none:=lk_none.2 fun p hp e=>by have:=h p hp;rw [e,yDg] at this;cases this
theorem yGS {A B:Rows} {p:List UInt8 × List UInt8} (h:RisR (A++p::B)) (k:List UInt8):lk (A++p::B) k=if Op.bytesLess k p.1=true then lk A k else if Op.bytesLess p.1 k=true then lk B k else some p.2:=by
 obtain ⟨_,_,h3,h4⟩:=ris_mid.1 h
 rw [yIV,yNO]
 by_cases c:Op.bytesLess k p.1=true
 ·have e1:lk B k=none:=yGQ fun q hq=>yGN c (h4 q hq)
  rw [if_pos c,if_neg (fun e=>yUN c e.symm),e1,Option.or_none]
 ·rw [if_neg c]
  by_cases c2:Op.bytesLess p.1 k=true
  ·have e1:lk A k=none:=yFL fun q hq=>yGN (h3 q hq) c2
   rw [if_pos c2,if_neg (yUN c2),e1,Option.none_or]
  ·have e:p.1=k:=by
    by_cases q:p.1=k
    ·exact q
    ·rcases yMn _ _ q with d|d
     ·exact absurd d c2
     ·exact absurd d c
   have e1:lk A k=none:=yFL fun q hq=>by rw [← e];exact h3 q hq
   rw [if_neg c2,if_pos e,e1,Option.none_or]
theorem yO4 {r:Rows} (h:RisR r) {k v:List UInt8} {q:List UInt8 × List UInt8} (hq:q ∈ yE4 r k v):q.1=k∨∃ u,(q.1,u) ∈ r:=by
 have:=(yEK (yCm h k v) q.1 q.2).1 hq
 rw [yEL h] at this
 split at this
 ·rename_i e;exact .inl e
 ·exact .inr ⟨_,yMl this⟩
theorem yY7 {A B:Rows} {p:List UInt8 × List UInt8} {k:List UInt8} (v:List UInt8) (h:RisR (A++p::B)) (c:Op.bytesLess k p.1=true):yE4 (A++p::B) k v=yE4 A k v++p::B:=by
 obtain ⟨h1,h2,h3,h4⟩:=ris_mid.1 h
 have hr:RisR (yE4 A k v++p::B):=ris_mid.2 ⟨yCm h1 k v,h2,fun a ha=>by
  rcases yO4 h1 ha with e|⟨u,hu⟩
  ·rw [e];exact c
  ·exact h3 (a.1,u) hu,h4⟩
 refine yGP (yCm h k v) hr fun j=>?_
 rw [yEL h,yGS hr,yGS h,yEL h1]
 by_cases e:j=k
 ·rw [if_pos e,e,if_pos c,if_pos rfl]
 ·rw [if_neg e,if_neg e]
theorem yY8 {A B:Rows} {p:List UInt8 × List UInt8} {k:List UInt8} (v:List UInt8) (h:RisR (A++p::B)) (c:Op.bytesLess p.1 k=true):yE4 (A++p::B) k v=A++p::yE4 B k v:=by
 obtain ⟨h1,h2,h3,h4⟩:=ris_mid.1 h
 have hr:RisR (A++p::yE4 B k v):=ris_mid.2 ⟨h1,yCm h2 k v,h3,fun a ha=>by
  rcases yO4 h2 ha with e|⟨u,hu⟩
  ·rw [e];exact c
  ·exact h4 (a.1,u) hu⟩
 refine yGP (yCm h k v) hr fun j=>?_
 rw [yEL h,yGS hr,yGS h,yEL h2]
 by_cases e:j=k
 ·rw [if_pos e,e,if_neg (by rw [yFi c];decide),if_pos c,if_pos rfl]
 ·rw [if_neg e,if_neg e]
theorem yWm {A B:Rows} {k u:List UInt8} (v:List UInt8) (h:RisR (A++(k,u)::B)):yE4 (A++(k,u)::B) k v=A++(k,v)::B:=by
 obtain ⟨h1,h2,h3,h4⟩:=ris_mid.1 h
 have hr:RisR (A++(k,v)::B):=ris_mid.2 ⟨h1,h2,h3,h4⟩
 refine yGP (yCm h k v) hr fun j=>?_
 rw [yEL h,yGS hr,yGS h]
 by_cases e:j=k
 ·rw [if_pos e,e,if_neg (by rw [yDg];decide),if_neg (by rw [yDg];decide)]
 ·rw [if_neg e]
  dsimp only
  split
  ·rfl
  split
  ·rfl
  ·rename_i c c2
   rcases yMn _ _ e with d|d
   ·exact absurd d c
   ·exact absurd d c2
theorem yCS {r:Rows} {k:List UInt8} (h:lk r k=none):yF6 r k=r:=List.filter_eq_self.2 fun p hp=>by simpa using lk_none.1 h p hp
theorem yGT (A B:Rows) (p:List UInt8 × List UInt8) (k:List UInt8):yF6 (A++p::B) k=yF6 A k++(if p.1=k then yF6 B k else p::yF6 B k):=by
 unfold yF6
 rw [List.filter_append,List.filter_cons]
 by_cases e:p.1=k <;> simp [e]
namespace Tr
theorem get_rows:∀ {t:Tr},RisR t.rows→∀ k,t.get k=lk t.rows k
 |nil,_,_=>rfl
 |node l k v r a b,h,x=>by
  obtain ⟨h1,h2,_,_⟩:=ris_mid.1 h
  rw [rows,yGS h,get,get_rows h1,get_rows h2]
theorem put_ok:∀ {t:Tr},t.Ok→RisR t.rows→∀ k v,(t.put k v).Ok∧(t.put k v).rows=yE4 t.rows k v∧t.tall≤(t.put k v).tall∧(t.put k v).tall≤t.tall+1
 |nil,_,_,k,v=>⟨yC5 trivial trivial zX zX,rfl,zLA _,Nat.le_refl _⟩
 |node l k v r a b,⟨o1,o2,o3,o4,o5,o6⟩,h,x,y=>by
  obtain ⟨h1,h2,h3,h4⟩:=ris_mid.1 h
  unfold put
  split
  ·rename_i c
   obtain ⟨i1,i2,i3,i4⟩:=put_ok o1 h1 x y
   obtain ⟨q1,q2,q3,q4,q5⟩:=yGR (k:=k) (v:=v) i1 o2 zO zO
   refine ⟨q1,?_,?_,?_⟩
   ·rw [q2,i2,rows,yY7 _ h c]
   ·show a≤_
    by_cases e:(l.put x y).tall≤r.tall+1
    ·have:=q5 e zO;omega
    ·omega
   ·show _≤a+1
    omega
  ·rename_i c
   split
   ·rename_i c2
    obtain ⟨i1,i2,i3,i4⟩:=put_ok o2 h2 x y
    obtain ⟨q1,q2,q3,q4,q5⟩:=yGR (k:=k) (v:=v) o1 i1 zO zO
    refine ⟨q1,?_,?_,?_⟩
    ·rw [q2,i2,rows,yY8 _ h c2]
    ·show a≤_
     by_cases e:(r.put x y).tall≤l.tall+1
     ·have:=q5 zO e;omega
     ·omega
    ·show _≤a+1
     omega
   ·rename_i c2
    have e:x=k:=by
     by_cases q:x=k
     ·exact q
     ·rcases yMn _ _ q with d|d
      ·exact absurd d c
      ·exact absurd d c2
    subst e
    refine ⟨yC5 o1 o2 o5 o6,?_,?_,?_⟩
    ·rw [ySd,rows,yWm _ h]
    ·show a≤max l.tall r.tall+1;omega
    ·show max l.tall r.tall+1≤a+1;omega
theorem first_rows:∀ {t:Tr},t≠nil→∃ R,t.rows=t.first::R
 |nil,h=>absurd rfl h
 |node nil k v r _ _,_=>⟨r.rows,rfl⟩
 |node (node l k v r a b) k' v' r' a' b',_=>by
  obtain ⟨R,hR⟩:=first_rows (t:=node l k v r a b) (fun e=>by cases e)
  refine ⟨R++(k',v')::r'.rows,?_⟩
  rw [rows,hR];rfl
theorem remove_ok:∀ {t:Tr},t.Ok→RisR t.rows→∀ k,(lk t.rows k).isSome=true→(t.remove k).Ok∧(t.remove k).rows=yF6 t.rows k∧(t.remove k).tall≤t.tall∧t.tall≤(t.remove k).tall+1
 |nil,_,_,k,h=>by cases h
 |node l k v r a b,⟨o1,o2,o3,o4,o5,o6⟩,h,x,hx=>by
  obtain ⟨h1,h2,h3,h4⟩:=ris_mid.1 h
  rw [rows,yGS h] at hx
  unfold remove
  split
  ·rename_i c
   rw [if_pos c] at hx
   obtain ⟨i1,i2,i3,i4⟩:=remove_ok o1 h1 x hx
   obtain ⟨q1,q2,q3,q4,q5⟩:=yGR (k:=k) (v:=v) i1 o2 zO zO
   refine ⟨q1,?_,?_,?_⟩
   ·rw [q2,i2,rows,yGT,if_neg (fun e=>yUN c e.symm),yCS (r:=r.rows) (yGQ fun q hq=>yGN c (h4 q hq))]
   ·show _≤a
    by_cases e:r.tall≤(l.remove x).tall+1
    ·have:=q5 zO e;omega
    ·omega
   ·show a≤_
    by_cases e:r.tall≤(l.remove x).tall+1
    ·have:=q5 zO e;omega
    ·omega
  ·rename_i c
   rw [if_neg c] at hx
   split
   ·rename_i c2
    rw [if_pos c2] at hx
    obtain ⟨i1,i2,i3,i4⟩:=remove_ok o2 h2 x hx
    obtain ⟨q1,q2,q3,q4,q5⟩:=yGR (k:=k) (v:=v) o1 i1 zO zO
    refine ⟨q1,?_,?_,?_⟩
    ·rw [q2,i2,rows,yGT,if_neg (fun e=>yUN c2 e),yCS (r:=l.rows) (yFL fun q hq=>yGN (h3 q hq) c2)]
    ·show _≤a
     by_cases e:l.tall≤(r.remove x).tall+1
     ·have:=q5 e zO;omega
     ·omega
    ·show a≤_
     by_cases e:l.tall≤(r.remove x).tall+1
     ·have:=q5 e zO;omega
     ·omega
   ·rename_i c2
    have e:k=x:=by
     by_cases q:k=x
     ·exact q
     ·rcases yMn _ _ q with d|d
      ·exact absurd d c2
      ·exact absurd d c
    subst e
    have dl:yF6 l.rows k=l.rows:=yCS (yFL h3)
    have dr:yF6 r.rows k=r.rows:=yCS (yGQ h4)
    have hdel:yF6 (l.rows++(k,v)::r.rows) k=l.rows++r.rows:=by rw [yGT,if_pos rfl,dl,dr]
    split
    ·refine ⟨o2,?_,?_,?_⟩
     ·rw [rows,hdel];rfl
     ·show _≤a;omega
     ·show a≤_;simp only [t0] at o3 o5 o6;omega
    ·refine ⟨o1,?_,?_,?_⟩
     ·rw [rows,hdel];simp [rows]
     ·show _≤a;omega
     ·show a≤_;simp only [t0] at o3 o5 o6 ⊢;omega
    ·rename_i hl hr
     obtain ⟨R,hR⟩:=first_rows hr
     have hf:(lk r.rows r.first.1).isSome=true:=by rw [hR,yNO,if_pos rfl];rfl
     obtain ⟨i1,i2,i3,i4⟩:=remove_ok o2 h2 r.first.1 hf
     obtain ⟨q1,q2,q3,q4,q5⟩:=yGR (k:=r.first.1) (v:=r.first.2) o1 i1 zO zO
     refine ⟨q1,?_,?_,?_⟩
     ·rw [q2,i2,rows,hdel,hR]
      congr 1
      have hn:yF6 R r.first.1=R:=by
       rw [hR] at h2
       exact yCS (yGQ (yUL h2).2)
      have:yF6 (r.first::R) r.first.1=R:=by
       have:=yGT [] R r.first r.first.1
       rw [if_pos rfl,hn] at this
       exact this
      rw [this]
     ·show _≤a
      by_cases e:l.tall≤(r.remove r.first.1).tall+1
      ·have:=q5 e zO;omega
      ·omega
     ·show a≤_
      by_cases e:l.tall≤(r.remove r.first.1).tall+1
      ·have:=q5 e zO;omega
      ·omega
end Tr
end Go.Proofs.YtlnbkbfblhofbaaGreatDoor
