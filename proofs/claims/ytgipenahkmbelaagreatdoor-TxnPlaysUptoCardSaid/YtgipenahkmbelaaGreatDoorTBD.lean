/-
  Mor2, Gen.
-/
import Derived.Test.YtgipenahkmbelaaGreatDoorTBB
set_option maxHeartbeats 64000000
namespace Go.Proofs.YtgipenahkmbelaaGreatDoor
open Go Go.RowKit
section
variable {P:Program} {W:World} {n d:Nat} {E:Env} {H H' R:List SP} {t u e:TypeId} {x y z:Operand} {T:TypeId} {b off:Nat} {k:KK}
theorem Ev_xor {kd:IntKind} {i j:Int} (hx:Env.ev E x=some (.int kd i)) (hy:Env.ev E y=some (.int kd j)):Ev P W n E H (.binOp .xor t x y u) (.int kd (bits .xor kd i j)):=Ev_bits (.inr (.inr (.inl rfl))) hx hy fun _=>rfl
theorem Ev_and {kd:IntKind} {i j:Int} (hx:Env.ev E x=some (.int kd i)) (hy:Env.ev E y=some (.int kd j)):Ev P W n E H (.binOp .and t x y u) (.int kd (bits .and kd i j)):=Ev_bits (.inl rfl) hx hy fun _=>rfl
theorem Ev_or {kd:IntKind} {i j:Int} (hx:Env.ev E x=some (.int kd i)) (hy:Env.ev E y=some (.int kd j)):Ev P W n E H (.binOp .or t x y u) (.int kd (bits .or kd i j)):=Ev_bits (.inr (.inl rfl)) hx hy fun _=>rfl
theorem Ev_compl {kd:IntKind} {i:Int} (hx:Env.ev E x=some (.int kd i)):Ev P W n E H (.unOp .xor t x) (.int kd (bits .xor kd (if kd.signed then -1 else kd.max) i)):=Ev.mk fun o ho a w p _=>by
 simp [execOp,ho,p.ev hx,Op.unary,intBits_xor]
theorem zBk {kd:IntKind} {i j:Int} {q:Bool} (hx:Env.ev E x=some (.int kd i)) (hy:Env.ev E y=some (.int kd j)) (h:decide (j≤i)=q):Ev P W n E H (.binOp .geq t x y u) (.bool q):=by
 subst h;exact Ev_geqI hx hy
theorem zAk {kd:IntKind} {i j:Int} {q:Bool} (hx:Env.ev E x=some (.int kd i)) (hy:Env.ev E y=some (.int kd j)) (h:decide (j<i)=q):Ev P W n E H (.binOp .gtr t x y u) (.bool q):=by
 subst h;exact Ev_gtrI hx hy
theorem Ev_leqI_q {kd:IntKind} {i j:Int} {q:Bool} (hx:Env.ev E x=some (.int kd i)) (hy:Env.ev E y=some (.int kd j)) (h:decide (i≤j)=q):Ev P W n E H (.binOp .leq t x y u) (.bool q):=by
 subst h;exact Ev_leqI hx hy
theorem zAe {kd:IntKind} {i j:Int} {q:Bool} (hx:Env.ev E x=some (.int kd i)) (hy:Env.ev E y=some (.int kd j)) (h:decide (i<j)=q):Ev P W n E H (.binOp .lss t x y u) (.bool q):=by
 subst h;exact Ev_lssI hx hy
theorem Ev_eqlI_f {kd:IntKind} {i j:Int} (hx:Env.ev E x=some (.int kd i)) (hy:Env.ev E y=some (.int kd j)) (h:i≠j):Ev P W n E H (.binOp .eql t x y u) (.bool false):=by
 have:=Ev_eqlI (P:=P) (W:=W) (n:=n) (E:=E) (H:=H) (t:=t) (u:=u) hx hy
 rw [decide_eq_false h] at this;exact this
theorem Ev_neqI_t {kd:IntKind} {i j:Int} (hx:Env.ev E x=some (.int kd i)) (hy:Env.ev E y=some (.int kd j)) (h:i≠j):Ev P W n E H (.binOp .neq t x y u) (.bool true):=by
 have:=Ev_neqI (P:=P) (W:=W) (n:=n) (E:=E) (H:=H) (t:=t) (u:=u) hx hy
 rw [decide_eq_true (by exact h)] at this;exact this
theorem Ev_sliceTo {j:Int} {kj:IntKind} {m c s:Nat} (hx:Env.ev E x=some (.slice (some ⟨b,off,none⟩) m c)) (hz:Env.ev E z=some (.int kj j)) [hu:UIs P t (.slice e)] (hb:0≤j∧j≤c∧0<c) [hi:SzIs P e s]:Ev P W n E H (.slice t x none (some z) none) (.slice (some ⟨b,off,none⟩) j.toNat c):=
 Ev.mk fun o ho a w p _=>by
  have h1:0≤j:=by omega
  have h3:¬ c=0:=by omega
  have hi:=hi.h
  cases hq:P.info? e with
  |none=>simp [hq] at hi
  |some q=>
   simp [execOp,ho,p.ev hx,p.ev hz,Instr.sliceAt,Instr.slice,run_underlying hu.h,Instr.sliceBounds,Instr.sliceBound,asIntOf,h1,hb,sizeOf,typeInfo,hq,Addr.add]
theorem Ev_sliceFrom {i:Int} {ki:IntKind} {m c s:Nat} (hx:Env.ev E x=some (.slice (some ⟨b,off,none⟩) m c)) (hy:Env.ev E y=some (.int ki i)) [hu:UIs P t (.slice e)] [hi:SzIs P e s] (hb:0≤i∧i≤m∧m≤c∧i<c):Ev P W n E H (.slice t x (some y) none none) (.slice (some ⟨b,off+i.toNat*s,none⟩) (m-i.toNat) (c-i.toNat)):=
 Ev.mk fun o ho a w p _=>by
  have h3:¬ c=i.toNat:=by omega
  have h4:¬ c≤i.toNat:=by omega
  have hi:=hi.h
  cases hq:P.info? e with
  |none=>simp [hq] at hi
  |some q=>
   have hi:q.size=s:=by simpa [hq] using hi
   have h5:¬ (c-i.toNat=0):=by omega
   have h6:(m:Int)≤c:=by omega
   simp [execOp,ho,p.ev hx,p.ev hy,Instr.sliceAt,Instr.slice,run_underlying hu.h,Instr.sliceBounds,Instr.sliceBound,asIntOf,hb,h3,sizeOf,typeInfo,hq,hi,Addr.add_mid]
theorem KJ_copyStr {dT sT:TypeId} {m c:Nat} {l:List UInt8} {cs:List Value} (hx:Env.ev E x=some (.slice (some ⟨b,off,none⟩) m c)) (hy:Env.ev E y=some (strV l)) [hu:UIs P dT (.slice e)] [hi:SzIs P e 1] (hs:Sel (zAh b cs T) H R)
 (hl:l.length≤m) (hfit:off+l.length≤cs.length) (hr:Rep (zAh b cs T) (zAh b (lay cs off (bvs l)) T) H H') (hn:Nat.blt d n=true) (h:KJ W n k ((d,.int .i64 l.length)::E) H') :
 KJ W n (.oper P (.call { callee:=.builtin .copy,args:=#[x,y],argTypes:=#[dT,sT] }) (some d) k) E H:=by
 have htk:l.take m=l:=List.take_of_length_le hl
 refine ⟨fun a w p s o ho hd=>?_⟩
 have hrun:=run_copy_str (P:=P) w dT sT o.type e b off m c l cs T hu.h hi.h (s.left.blk hs).2 (by rw [htk];exact hfit)
 rw [htk] at hrun
 show uponP P o a _ ((execOp a.eval o).run P w)
 have e2:(execOp a.eval o).run P w=.ok (.value (goInt l.length)) (w.setRow b (lay cs off (bvs l)).toArray):=by
  have hrun':(Builtin.copy_ #[dT,sT] o.type #[.slice (some ⟨b,off,none⟩) m c,strV l]).run P w=.ok (goInt l.length) (w.setRow b (lay cs off (bvs l)).toArray):=hrun
  simp [execOp,ho,resolve,invoke,builtin,p.ev hx,p.ev hy,hrun',Result.andThen]
 rw [e2]
 have:=h.go _ _ (p.put (d:=some d) hn (goInt l.length)) (s.setRow (hr.app _))
 rw [← hd] at this
 exact this
end
end Go.Proofs.YtgipenahkmbelaaGreatDoor
namespace Go.Proofs.YtgipenahkmbelaaGreatDoor
open Go Go.RowKit
theorem bvs_length' (l:List UInt8):(bvs l).length=l.length:=by simp [bvs]
theorem cut_lay_same (l b:List UInt8) (o:Nat) (h:o+b.length≤l.length):cut (lay l o b) o b.length=b:=by
 unfold cut lay
 rw [List.drop_left' (by simp;omega),List.take_left' rfl]
theorem cut_lay_before (l b:List UInt8) (o p m:Nat) (h:o+b.length≤l.length) (hp:p+m≤o):cut (lay l o b) p m=cut l p m:=by
 unfold cut lay
 rw [List.drop_append_of_le_length (by simp;omega),List.take_append_of_le_length (by simp;omega),List.drop_take,List.take_take,Nat.min_eq_left (by omega)]
theorem cut_lay_behind (l b:List UInt8) (o p m:Nat) (h:o+b.length≤l.length) (hp:o+b.length≤p):cut (lay l o b) p m=cut l p m:=by
 unfold cut lay
 rw [← List.append_assoc,List.drop_append,List.drop_of_length_le (by simp;omega)]
 simp only [List.nil_append,List.drop_drop]
 congr 2
 simp
 omega
theorem zs_cut (m o n:Nat) (h:o+n≤m):cut (zs m) o n=zs n:=by
 unfold cut zs
 rw [List.drop_replicate,List.take_replicate]
 congr 1
 omega
section
variable {P:Program} {W:World} {n d:Nat} {E:Env} {H H' R:List SP} {t u e:TypeId} {x y z:Operand} {T:TypeId} {b off:Nat} {k:KK}
theorem KJ_copyStrB {dT sT:TypeId} {m c:Nat} {l l0 l':List UInt8} (hx:Env.ev E x=some (.slice (some ⟨b,off,none⟩) m c)) (hy:Env.ev E y=some (strV l)) [hu:UIs P dT (.slice e)] [hi:SzIs P e 1] (hs:Sel (zAh b (bvs l0) T) H R)
 (hl:l.length≤m) (hfit:off+l.length≤l0.length) (he:lay l0 off l=l') (hr:Rep (zAh b (bvs l0) T) (zAh b (bvs l') T) H H') (hn:Nat.blt d n=true) (h:KJ W n k ((d,.int .i64 l.length)::E) H') :
 KJ W n (.oper P (.call { callee:=.builtin .copy,args:=#[x,y],argTypes:=#[dT,sT] }) (some d) k) E H:=by
 have e1:bvs l'=lay (bvs l0) off (bvs l):=by rw [← he,bvs_lay]
 rw [e1] at hr
 exact KJ_copyStr hx hy hs hl (by rw [bvs_length'];exact hfit) hr hn h
theorem Ev_bytesTake {s:TypeId} {l:List UInt8} {m c:Nat} (hx:Env.ev E x=some (.slice (some ⟨b,0,none⟩) m c)) [hs:UIs P s (.slice e)] [he:UIs P e (.int .u8)] [hd:UIs P u .string] (hs':Sel (zAh b (bvs l) T) H R) (hm:m≤l.length):Ev P W n E H (.convert s u x) (strV (l.take m)):=by
 have h:=Ev_bytesStr (P:=P) (W:=W) (n:=n) (E:=E) (u:=u) hx (hs:=hs) (he:=he) (hd:=hd) hs' (by omega)
 rw [List.drop_zero] at h
 exact h
theorem Ev_bytesAll {s:TypeId} {l:List UInt8} {m c:Nat} (hx:Env.ev E x=some (.slice (some ⟨b,0,none⟩) m c)) [hs:UIs P s (.slice e)] [he:UIs P e (.int .u8)] [hd:UIs P u .string] (hs':Sel (zAh b (bvs l) T) H R) (hm:l.length=m):Ev P W n E H (.convert s u x) (strV l):=by
 have h:=Ev_bytesStr (P:=P) (W:=W) (n:=n) (E:=E) (u:=u) hx (hs:=hs) (he:=he) (hd:=hd) hs' (by omega)
 rw [List.drop_zero,List.take_of_length_le (by omega)] at h
 exact h
end
section
variable {P:Program} {W:World} {n:Nat} {E:Env} {H:List SP} {x:Operand}
theorem zAw {s d:TypeId} {ks kd:IntKind} {k:IntKind} {i j:Int} (hx:Env.ev E x=some (.int k i)) [hs:UIs P s (.int ks)] [hd:UIs P d (.int kd)] (h:kd.wrap i=j):Ev P W n E H (.convert s d x) (.int kd j):=by
 subst h;exact Ev_convI hx
end
end Go.Proofs.YtgipenahkmbelaaGreatDoor
