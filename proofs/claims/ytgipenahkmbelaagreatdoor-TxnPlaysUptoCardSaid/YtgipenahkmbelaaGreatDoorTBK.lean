/-
  Sec, Sec2, Sec3, Sec4.
-/
import Derived.Test.YtgipenahkmbelaaGreatDoorTBD
set_option maxHeartbeats 64000000
namespace Go.Proofs.YtgipenahkmbelaaGreatDoor
open Go Go.RowKit
abbrev plTBK0:Pl:=(.op 0 (.op 1 (.op 2 (.op 3 .nil))))
abbrev plTBK1:Pl:=(.op 0 (.op 2 (.op 3 (.ef 1 [3,2] (.ef 4 [] (.op 5 (.op 6 (.op 7 .nil))))))))
abbrev plTBK2:Pl:=(.op 0 (.op 1 (.op 2 .nil)))
abbrev plTBK3:Pl:=(.op 0 (.op 1 (.op 2 (.op 3 (.op 4 (.ef 5 [1,0] (.op 6 (.ef 7 [] .nil))))))))
def nibT:List Int:=[0,274646895,549293790,820201905,1098587580,1361435347,1640403810,1905808397,2197175160,2460548119,2722870694,2987750089,3280807620,3553878443,3811616794,4084100981]
def NibAt (W:World):Prop:=∀ i,i<16→W.cell? ⟨37,i,none⟩=some (.int .u32 (nibT.getD i 0))
def nibStep (a:Int):Int:=bits .xor .u32 (a.fdiv (2 ^ (min (4:Int).toNat IntKind.u32.bits))) (nibT.getD (bits .and .u32 a 15).toNat 0)
def crcStep (s:Int) (c:UInt8):Int:=nibStep (nibStep (bits .xor .u32 s (IntKind.u32.wrap c.toNat)))
def crcAll (s:Int) (l:List UInt8):Int:=l.foldl crcStep s
def crcNot (s:Int):Int:=bits .xor .u32 (if IntKind.u32.signed then -1 else IntKind.u32.max) s
def crcSum (l:List UInt8):Int:=crcNot (crcAll (crcNot 0) l)
theorem and15 (a:Int):0≤bits .and .u32 a 15∧bits .and .u32 a 15<((16:Nat):Int):=by
 have h:(BitVec.ofInt 32 a &&& BitVec.ofInt 32 15).toNat≤15:=by
  rw [BitVec.toNat_and]
  exact Nat.and_le_right
 have e:bits .and .u32 a 15=IntKind.u32.wrap ((BitVec.ofInt 32 a &&& BitVec.ofInt 32 15).toNat):=rfl
 have e2:IntKind.u32.wrap ((BitVec.ofInt 32 a &&& BitVec.ofInt 32 15).toNat)=((BitVec.ofInt 32 a &&& BitVec.ofInt 32 15).toNat:Int) % 4294967296:=rfl
 rw [e,e2]
 omega
theorem NibAt.at_ {W:World} (h:NibAt W) (a:Int):W.cell? ⟨37,0+(bits .and .u32 a 15).toNat*1,none⟩=some (.int .u32 (nibT.getD (bits .and .u32 a 15).toNat 0)):=by
 have:=and15 a
 rw [Nat.zero_add,Nat.mul_one]
 exact h _ (by omega)
theorem crcAll_next (s:Int) (l:List UInt8) (i:Nat) (c:UInt8) (h:l[i]? = some c):crcAll s (l.take (i+1))=crcStep (crcAll s (l.take i)) c:=by
 unfold crcAll
 rw [List.take_add_one,h]
 simp
section
variable {P:Program} {W:World} {n:Nat} {E:Env} {H:List SP} {t:TypeId} {x:Operand}
theorem Ev_crcNot {i:Int} (hx:Env.ev E x=some (.int .u32 i)):Ev P W n E H (.unOp .xor t x) (.int .u32 (crcNot i)):=Ev_compl hx
end
set_option maxRecDepth 100000 in
theorem extend_ct {W:World} (hN:NibAt W) (s:Int) (l:List UInt8) (hl:l.length<4611686018427387904):Ct Tryz.prog W 189 [.int .u32 s,strV l] [] (fun _:Unit=>.int .u32 (crcNot (crcAll (crcNot s) l))) (fun _=>[]):=by
 obtain ⟨A,hA⟩:∃ A:Nat→Int,A=fun i=>crcAll (crcNot s) (l.take i):=⟨_,rfl⟩
 have hA0:crcNot s=A 0:=by rw [hA];simp [crcAll]
 have hAl:crcAll (crcNot s) l=A l.length:=by rw [hA];simp
 have hAn:∀ i c,l[i]? = some c→A (i+1)=crcStep (A i) c:=fun i c h=>by rw [hA];exact crcAll_next _ l i c h
 rw [hAl]
 clear hA hAl
 refine Ct.enter Tryz.func189 rfl Tryz.ntmps189 (by simp) (fun R=>?_)
 repeat' (first|(refine ek_un ?_;refine zAb (Ev_crcNot rfl) ?_)|refine xst ?_|(refine xsa ?_;intro _)|(refine xsb ?_ ?_ <;>intro _<;>try (exfalso;omega))|refine xsc ?_|fail)
 rw [hA0]
 refine zBv (fun i:{k:Nat//k≤l.length}=>[(0,.int .u32 (A i.1)),(1,strV l),(5,.int .i64 (i.1:Nat))]) (fun _=>R) (fun i=>l.length-i.1) ⟨0,by omega⟩ xB (fun _ q=>q) (fun ⟨k,hk⟩=>?_)
 dsimp only
 by_cases hlt:k<l.length
 ·obtain ⟨c,hc⟩:∃ c,l[k]? = some c:=⟨_,List.getElem?_eq_getElem hlt⟩
  have hnx:=hAn k c hc
  have hc':l[(k:Int).toNat]? = some c:=by rw [Int.toNat_natCast];exact hc
  repeat' (first|(refine zAm ?_;refine zAb (zAt rfl (hN.at_ _)) ?_)|(refine ek_indexAddr ?_;refine zAb (Ev_indexArr rfl rfl (and15 _)) ?_)|(refine ek_index ?_;refine zAb (Ev_indexStr rfl rfl (by omega) hc') ?_)|(refine ek_and ?_;refine zAb (Ev_and rfl rfl) ?_)|(refine ek_xor ?_;refine zAb (Ev_xor rfl rfl) ?_)|refine xst ?_|(refine xsa ?_;intro _)|(refine xsb ?_ ?_ <;>intro _<;>try (exfalso;omega))|refine xsc ?_|fail)
  refine zAv ⟨k+1,by omega⟩ (by show l.length-(k+1)<l.length-k;omega) ?_ (fun _ q=>q)
  rw [hnx]
  exact xB
 ·have hkl:k=l.length:=by omega
  subst hkl
  repeat' (first|(refine ek_un ?_;refine zAb (Ev_crcNot rfl) ?_)|refine xst ?_|(refine xsa ?_;intro _)|(refine xsb ?_ ?_ <;>intro _<;>try (exfalso;omega))|refine xsc ?_|fail)
  all_goals (exact xdn ())
theorem sum_ct {W:World} (hN:NibAt W) (l:List UInt8) (hl:l.length<4611686018427387904):Ct Tryz.prog W 176 [strV l] [] (fun _:Unit=>.int .u32 (crcSum l)) (fun _=>[]):=by
 have c1:Ct Tryz.prog W 189 [.int .u32 0,strV l] [] (fun _:Unit=>.int .u32 (crcSum l)) (fun _=>[]):=extend_ct hN 0 l hl
 refine Ct.enter Tryz.func176 rfl Tryz.ntmps176 (by simp) (fun R=>?_)
 repeat' (first|(refine zAd ?_;refine zAc xE c1 xP rfl (fun _=>?_))|refine xst ?_|(refine xsa ?_;intro _)|(refine xsb ?_ ?_ <;>intro _<;>try (exfalso;omega))|refine xsc ?_|fail)
 all_goals (exact xdn ())
def byteI (x:Int) (i:Nat):Int:=IntKind.u8.wrap (x.fdiv (2 ^ (min (8*(i:Int)).toNat IntKind.u64.bits)))
def byteAt (x:Int) (i:Nat):UInt8:=UInt8.ofNat (byteI x i).toNat
theorem byteAt_bv (x:Int) (i:Nat):Value.int .u8 (byteI x i)=bv (byteAt x i):=by
 have e:byteI x i=(x.fdiv (2 ^ (min (8*(i:Int)).toNat IntKind.u64.bits))) % 256:=rfl
 have h:0≤byteI x i∧byteI x i<256:=by rw [e];omega
 unfold bv byteAt
 rw [UInt8.toNat_ofNat']
 congr 1
 omega
def putB (x:Int) (n:Nat):List UInt8:=(List.range n).map (byteAt x)
theorem zCf (x:Int) (n:Nat):(putB x n).length=n:=by simp [putB]
theorem putB_next (x:Int) (n:Nat):putB x (n+1)=putB x n++[byteAt x n]:=by simp [putB,List.range_succ]
theorem lay_snoc (l:List UInt8) (o:Nat) (b:List UInt8) (c:UInt8) (h:o+b.length<l.length):lay (lay l o b) (o+b.length) [c]=lay l o (b++[c]):=by
 unfold lay
 have e1:(l.take o++(b++l.drop (o+b.length))).take (o+b.length)=l.take o++b:=by
  rw [← List.append_assoc,List.take_left' (by simp;omega)]
 have e2:(l.take o++(b++l.drop (o+b.length))).drop (o+b.length+[c].length)=l.drop (o+(b++[c]).length):=by
  rw [← List.append_assoc,List.drop_append,List.drop_of_length_le (by simp;omega)]
  simp only [List.nil_append,List.drop_drop]
  congr 1
  simp
  omega
 rw [e1,e2]
 simp
theorem lay_next (l:List UInt8) (o:Nat) (b:List UInt8) (c:UInt8) (h:o+b.length<l.length):lay (bvs (lay l o b)) (o+b.length) [bv c]=bvs (lay l o (b++[c])):=by
 rw [show [bv c]=bvs [c] from rfl,bvs_lay,lay_snoc l o b c h]
set_option maxRecDepth 100000 in
theorem put_ct {W:World} (g off m c:Nat) (l:List UInt8) (x:Int) (n:Nat) (h1:n≤m) (h2:off+m≤l.length) (h3:m≤1048576) (T:TypeId) :
 Ct Tryz.prog W 175 [.slice (some ⟨g,off,none⟩) m c,.int .u64 x,.int .i64 (n:Nat)] [zAh g (bvs l) T] (fun _:Unit=>.tuple #[]) (fun _=>[zAh g (bvs (lay l off (putB x n))) T]):=by
 refine Ct.enter Tryz.func175 rfl Tryz.ntmps175 (by simp) (fun R=>?_)
 repeat' (first|refine xst ?_|(refine xsa ?_;intro _)|(refine xsb ?_ ?_ <;>intro _<;>try (exfalso;omega))|refine xsc ?_|fail)
 have h0:lay l off (putB x 0)=l:=lay_nil l off
 refine zBv (fun i:{k:Nat//k≤n}=>[(0,.slice (some ⟨g,off,none⟩) m c),(1,.int .u64 x),(7,.int .i64 (n:Nat)),(8,.int .i64 (i.1:Nat))]) (fun i=>[zAh g (bvs (lay l off (putB x i.1))) T]++R) (fun i=>n-i.1) ⟨0,by omega⟩ xB
  (by show ∀ h,zAj ([zAh g (bvs l) T]++R) h→zAj ([zAh g (bvs (lay l off (putB x 0))) T]++R) h;rw [h0];exact fun _ q=>q) (fun ⟨k,hk⟩=>?_)
 dsimp only
 by_cases hlt:k<n
 ·have hlen:(lay l off (putB x k)).length=l.length:=lay_length _ _ _ (by rw [zCf];omega)
  have hfit:off+(k:Int).toNat*1+[Value.int IntKind.u8 (byteI x k)].length≤(bvs (lay l off (putB x k))).length:=by rw [bvs_length',hlen];simp;omega
  repeat' (first|(refine is_store ?_;refine KJ_store (v:=.int .u8 (byteI x k)) rfl rfl xS xF (by rfl) xO (Laid.of hfit) xR ?_)|refine xst ?_|(refine xsa ?_;intro _)|(refine xsb ?_ ?_ <;>intro _<;>try (exfalso;omega))|refine xsc ?_|fail)
  refine zAv ⟨k+1,by omega⟩ (by show n-(k+1)<n-k;omega) xB ?_
  have e:=lay_next l off (putB x k) (byteAt x k) (by rw [zCf];omega)
  rw [zCf,← putB_next,← byteAt_bv] at e
  have e3:off+(k:Int).toNat*1=off+k:=by simp
  rw [e3,e]
  exact (xN)
 ·have hkn:k=n:=by omega
  subst hkn
  repeat' (first|refine xst ?_|(refine xsa ?_;intro _)|(refine xsb ?_ ?_ <;>intro _<;>try (exfalso;omega))|refine xsc ?_|fail)
  all_goals (exact xdn ())
end Go.Proofs.YtgipenahkmbelaaGreatDoor
namespace Go.Proofs.YtgipenahkmbelaaGreatDoor
open Go Go.RowKit
def getPart (x:Int) (i:Nat) (c:UInt8):Int:=bits .or .u64 x (IntKind.u64.wrap (IntKind.u64.wrap c.toNat*2 ^ (min (8*(i:Int)).toNat IntKind.u64.bits)))
def getB (l:List UInt8):Nat→Int
 |0=>0
 |n+1=>getPart (getB l n) n (l.getD n 0)
theorem bits_lt (op:BinOp) (hop:op=.and∨op=.or∨op=.xor) (x y:Int) (m:Nat) (hm:m≤64) (hx:0≤x∧x<2 ^ m) (hy:0≤y∧y<2 ^ m):0≤bits op .u64 x y∧bits op .u64 x y<2 ^ m:=by
 have hp:(2:Int) ^ m≤18446744073709551616:=by
  have:(2:Nat) ^ m≤2 ^ 64:=Nat.pow_le_pow_right (by omega) hm
  have h2:((2 ^ m:Nat):Int)≤((2 ^ 64:Nat):Int):=by exact_mod_cast this
  simpa using h2
 have b1:(BitVec.ofInt 64 x).toNat=x.toNat:=by
  rw [BitVec.toNat_ofInt];omega
 have b2:(BitVec.ofInt 64 y).toNat=y.toNat:=by
  rw [BitVec.toNat_ofInt];omega
 have hpc:((2 ^ m:Nat):Int)=2 ^ m:=by simp
 have hx':x.toNat<2 ^ m:=by omega
 have hy':y.toNat<2 ^ m:=by omega
 have key:∀ r:Nat,r<2 ^ m→0≤IntKind.u64.wrap (r:Int)∧IntKind.u64.wrap (r:Int)<2 ^ m:=fun r hr=>by
  have e:IntKind.u64.wrap (r:Int)=(r:Int) % 18446744073709551616:=rfl
  rw [e]
  omega
 rcases hop with rfl|rfl|rfl
 ·refine key _ ?_
  show (BitVec.ofInt 64 x &&& BitVec.ofInt 64 y).toNat<_
  rw [BitVec.toNat_and,b1,b2]
  exact Nat.and_lt_two_pow _ hy'
 ·refine key _ ?_
  show (BitVec.ofInt 64 x ||| BitVec.ofInt 64 y).toNat<_
  rw [BitVec.toNat_or,b1,b2]
  exact Nat.or_lt_two_pow hx' hy'
 ·refine key _ ?_
  show (BitVec.ofInt 64 x ^^^ BitVec.ofInt 64 y).toNat<_
  rw [BitVec.toNat_xor,b1,b2]
  exact Nat.xor_lt_two_pow hx' hy'
theorem part0 (c:UInt8):IntKind.u64.wrap (IntKind.u64.wrap c.toNat*2 ^ (min (8*((0:Nat):Int)).toNat IntKind.u64.bits))=(c.toNat:Int):=by
 have h0:=UInt8.toNat_lt c
 have e:∀ z,IntKind.u64.wrap z=z % 18446744073709551616:=fun _=>rfl
 have e2:(min (8*((0:Nat):Int)).toNat IntKind.u64.bits)=0:=rfl
 rw [e,e,e2]
 omega
theorem part1 (c:UInt8):IntKind.u64.wrap (IntKind.u64.wrap c.toNat*2 ^ (min (8*((1:Nat):Int)).toNat IntKind.u64.bits))=(c.toNat:Int)*256:=by
 have h0:=UInt8.toNat_lt c
 have e:∀ z,IntKind.u64.wrap z=z % 18446744073709551616:=fun _=>rfl
 have e2:(min (8*((1:Nat):Int)).toNat IntKind.u64.bits)=8:=rfl
 rw [e,e,e2]
 omega
theorem getB_two (l:List UInt8):0≤getB l 2∧getB l 2<65536:=by
 have e3:getB l 2=bits .or .u64 (bits .or .u64 0 ((l.getD 0 0).toNat:Int)) (((l.getD 1 0).toNat:Int)*256):=by
  show getPart (getPart 0 0 (l.getD 0 0)) 1 (l.getD 1 0)=_
  unfold getPart
  rw [part0,part1]
 rw [e3]
 obtain ⟨c0,hc0⟩:∃ c,c=l.getD 0 0:=⟨_,rfl⟩
 obtain ⟨c1,hc1⟩:∃ c,c=l.getD 1 0:=⟨_,rfl⟩
 rw [← hc0,← hc1]
 have h0:=UInt8.toNat_lt c0
 have h1:=UInt8.toNat_lt c1
 have a1:=bits_lt .or (.inr (.inl rfl)) 0 (c0.toNat:Int) 16 (by omega) (by omega) (by omega)
 have a2:=bits_lt .or (.inr (.inl rfl)) (bits .or .u64 0 (c0.toNat:Int)) ((c1.toNat:Int)*256) 16 (by omega) a1 (by omega)
 exact a2
set_option maxRecDepth 100000 in
theorem get_ct {W:World} (l:List UInt8) (n:Nat) (h1:n≤l.length) (h2:n≤1048576):Ct Tryz.prog W 174 [strV l,.int .i64 (n:Nat)] [] (fun _:Unit=>.int .u64 (getB l n)) (fun _=>[]):=by
 obtain ⟨A,hA⟩:∃ A:Nat→Int,A=getB l:=⟨_,rfl⟩
 have hA0:A 0=0:=by rw [hA];rfl
 have hAn:∀ i,A (i+1)=getPart (A i) i (l.getD i 0):=fun i=>by rw [hA];rfl
 rw [← hA]
 clear hA
 refine Ct.enter Tryz.func174 rfl Tryz.ntmps174 (by simp) (fun R=>?_)
 repeat' (first|refine xst ?_|(refine xsa ?_;intro _)|(refine xsb ?_ ?_ <;>intro _<;>try (exfalso;omega))|refine xsc ?_|fail)
 refine zBv (fun i:{k:Nat//k≤n}=>[(0,strV l),(5,.int .u64 (A i.1)),(7,.int .i64 (n:Nat)),(8,.int .i64 (i.1:Nat))]) (fun _=>R) (fun i=>n-i.1) ⟨0,by omega⟩ ?_ (fun _ q=>q) (fun ⟨k,hk⟩=>?_)
 ·exact Subs.cons rfl (Subs.cons (show _=some (Value.int .u64 (A 0)) from by rw [hA0];rfl) xB)
 dsimp only
 by_cases hlt:k<n
 ·obtain ⟨c,hc⟩:∃ c,l[k]? = some c:=⟨_,List.getElem?_eq_getElem (by omega)⟩
  have hnx:=hAn k
  have hcd:l.getD k 0=c:=by rw [List.getD,hc];rfl
  rw [hcd] at hnx
  have hc':l[(k:Int).toNat]? = some c:=by rw [Int.toNat_natCast];exact hc
  repeat' (first|(refine ek_index ?_;refine zAb (Ev_indexStr rfl rfl (by omega) hc') ?_)|(refine ek_or ?_;refine zAb (Ev_or rfl rfl) ?_)|refine xst ?_|(refine xsa ?_;intro _)|(refine xsb ?_ ?_ <;>intro _<;>try (exfalso;omega))|refine xsc ?_|fail)
  refine zAv ⟨k+1,by omega⟩ (by show n-(k+1)<n-k;omega) ?_ (fun _ q=>q)
  rw [hnx]
  exact xB
 ·have hkn:k=n:=by omega
  subst hkn
  repeat' (first|refine xst ?_|(refine xsa ?_;intro _)|(refine xsb ?_ ?_ <;>intro _<;>try (exfalso;omega))|refine xsc ?_|fail)
  all_goals (exact xdn ())
theorem ends_bad {W:World} {E:Nat→Addr} (hE:ErrsOn L8 W E) (raw:List UInt8) (h:raw.length≠256):Ct Tryz.prog W 130 [strV raw] [] (fun _:Unit=>.tuple #[.int .u64 0,.int .u64 0,errV E 7]) (fun _=>[]):=by
 have e7:W.cell? ⟨15,0,none⟩=some (errV E 7):=hE.at_ 7 (by decide)
 have hne:(raw.length:Int)≠256:=by omega
 refine Ct.enter Tryz.func130 rfl Tryz.ntmps130 (by simp) (fun R=>?_)
 repeat' (first|(refine zAm ?_;refine zAb (zAt rfl e7) ?_)|(refine zBz ?_;refine zAb (Ev_neqI_t rfl rfl hne) ?_)|refine xst ?_|(refine xsa ?_;intro _)|(refine xsb ?_ ?_ <;>intro _<;>try (exfalso;omega))|refine xsc ?_|(refine zAa (id:=2) plTBK0 (by kernel_rfl) (by kernel_rfl) ?_)|(refine zAa (id:=3) plTBK1 (by kernel_rfl) (by kernel_rfl) ?_)|refine zAp ?_ ?_|refine zAn rfl rfl rfl rfl rfl ?_ ?_|refine zAg ?_ ?_|exact Rech.nil|fail)
 all_goals (exact xdn ())
theorem ends_ok {W:World} (raw:List UInt8) (h:raw.length=256):Ct Tryz.prog W 130 [strV raw] [] (fun _:Unit=>.tuple #[.int .u64 (getB raw 8),.int .u64 (getB (raw.drop 248) 8),.nilIface]) (fun _=>[]):=by
 have hq:(raw.length:Int)=256:=by omega
 have c1:Ct Tryz.prog W 174 [strV raw,.int .i64 8] [] (fun _:Unit=>.int .u64 (getB raw 8)) (fun _=>[]):=get_ct raw 8 (by omega) (by omega)
 have c2:Ct Tryz.prog W 174 [strV (raw.drop (248:Int).toNat),.int .i64 8] [] (fun _:Unit=>.int .u64 (getB (raw.drop 248) 8)) (fun _=>[]):=get_ct (raw.drop 248) 8 (by simp;omega) (by omega)
 refine Ct.enter Tryz.func130 rfl Tryz.ntmps130 (by simp) (fun R=>?_)
 repeat' (first|(refine zAd ?_;first|(refine zAc xE c2 xP rfl (fun _=>?_))|(refine zAc xE c1 xP rfl (fun _=>?_)))|(refine zCg ?_;refine zAb (Ev_sliceStrFrom rfl rfl (by omega)) ?_)|(refine zBz ?_;refine zAb (zCh rfl rfl hq) ?_)|refine xst ?_|(refine xsa ?_;intro _)|(refine xsb ?_ ?_ <;>intro _<;>try (exfalso;omega))|refine xsc ?_|(refine zAa (id:=2) plTBK0 (by kernel_rfl) (by kernel_rfl) ?_)|(refine zAa (id:=3) plTBK1 (by kernel_rfl) (by kernel_rfl) ?_)|refine zAp ?_ ?_|refine zAn rfl rfl rfl rfl rfl ?_ ?_|refine zAg ?_ ?_|exact Rech.nil|fail)
 all_goals (exact xdn ())
end Go.Proofs.YtgipenahkmbelaaGreatDoor
namespace Go.Proofs.YtgipenahkmbelaaGreatDoor
open Go Go.RowKit
def sealB1 (stamp:Int):List UInt8:=lay (List.replicate 256 0) 0 (putB stamp 8)
def sealB2 (stamp:Int) (pl:List UInt8):List UInt8:=lay (sealB1 stamp) 8 (putB (IntKind.u64.wrap pl.length) 2)
def sealB3 (stamp:Int) (pl:List UInt8):List UInt8:=lay (sealB2 stamp pl) 10 pl
def sealB4 (stamp:Int) (pl:List UInt8):List UInt8:=lay (sealB3 stamp pl) 244 (putB (IntKind.u64.wrap (crcSum ((sealB3 stamp pl).take 244))) 4)
def zBs (stamp:Int) (pl:List UInt8):List UInt8:=lay (sealB4 stamp pl) 248 (putB stamp 8)
theorem sealB1_length (stamp:Int):(sealB1 stamp).length=256:=by
 unfold sealB1;rw [lay_length _ _ _ (by rw [zCf,List.length_replicate];omega),List.length_replicate]
theorem sealB2_length (stamp:Int) (pl:List UInt8):(sealB2 stamp pl).length=256:=by
 unfold sealB2;rw [lay_length _ _ _ (by rw [zCf,sealB1_length];omega),sealB1_length]
theorem sealB3_length (stamp:Int) (pl:List UInt8) (h:pl.length≤234):(sealB3 stamp pl).length=256:=by
 unfold sealB3;rw [lay_length _ _ _ (by rw [sealB2_length];omega),sealB2_length]
theorem sealB4_length (stamp:Int) (pl:List UInt8) (h:pl.length≤234):(sealB4 stamp pl).length=256:=by
 unfold sealB4;rw [lay_length _ _ _ (by rw [zCf,sealB3_length _ _ h];omega),sealB3_length _ _ h]
theorem sealB_length (stamp:Int) (pl:List UInt8) (h:pl.length≤234):(zBs stamp pl).length=256:=by
 unfold zBs;rw [lay_length _ _ _ (by rw [zCf,sealB4_length _ _ h];omega),sealB4_length _ _ h]
set_option maxRecDepth 100000 in
theorem seal_ok {W:World} (hN:NibAt W) (stamp:Int) (pl:List UInt8) (h0:stamp≠0) (hl:pl.length≤234) :
 Ct Tryz.prog W 134 [.int .u64 stamp,strV pl] [] (fun _:Unit=>.tuple #[strV (zBs stamp pl),.nilIface]) (fun _=>[]):=by
 have l1:=sealB1_length stamp
 have l2:=sealB2_length stamp pl
 have l3:=sealB3_length stamp pl hl
 have l4:=sealB4_length stamp pl hl
 have l5:=sealB_length stamp pl hl
 have c1:∀ g,Ct Tryz.prog W 175 [.slice (some ⟨g,0,none⟩) 256 256,.int .u64 stamp,.int .i64 8] [zAh g (bvs (List.replicate 256 0)) 5] (fun _:Unit=>.tuple #[]) (fun _=>[zAh g (bvs (sealB1 stamp)) 5]):=fun g=>put_ct g 0 256 256 _ stamp 8 (by omega) (by rw [List.length_replicate];omega) (by omega) _
 have c2:∀ g,Ct Tryz.prog W 175 [.slice (some ⟨g,8,none⟩) 248 248,.int .u64 (IntKind.u64.wrap pl.length),.int .i64 2] [zAh g (bvs (sealB1 stamp)) 5] (fun _:Unit=>.tuple #[]) (fun _=>[zAh g (bvs (sealB2 stamp pl)) 5]):=fun g=>put_ct g 8 248 248 _ _ 2 (by omega) (by omega) (by omega) _
 have c3:Ct Tryz.prog W 176 [strV ((sealB3 stamp pl).take 244)] [] (fun _:Unit=>.int .u32 (crcSum ((sealB3 stamp pl).take 244))) (fun _=>[]):=sum_ct hN _ (by rw [List.length_take];omega)
 have c4:∀ g c,Ct Tryz.prog W 175 [.slice (some ⟨g,244,none⟩) 12 c,.int .u64 (IntKind.u64.wrap (crcSum ((sealB3 stamp pl).take 244))),.int .i64 4] [zAh g (bvs (sealB3 stamp pl)) 5] (fun _:Unit=>.tuple #[]) (fun _=>[zAh g (bvs (sealB4 stamp pl)) 5]):=fun g c=>put_ct g 244 12 c _ _ 4 (by omega) (by omega) (by omega) _
 have c5:∀ g c,Ct Tryz.prog W 175 [.slice (some ⟨g,248,none⟩) 8 c,.int .u64 stamp,.int .i64 8] [zAh g (bvs (sealB4 stamp pl)) 5] (fun _:Unit=>.tuple #[]) (fun _=>[zAh g (bvs (zBs stamp pl)) 5]):=fun g c=>put_ct g 248 8 c _ _ 8 (by omega) (by omega) (by omega) _
 have e3:lay (sealB2 stamp pl) 10 pl=sealB3 stamp pl:=rfl
 obtain ⟨B1,hB1⟩:∃ B,B=sealB1 stamp:=⟨_,rfl⟩
 obtain ⟨B2,hB2⟩:∃ B,B=sealB2 stamp pl:=⟨_,rfl⟩
 obtain ⟨B3,hB3⟩:∃ B,B=sealB3 stamp pl:=⟨_,rfl⟩
 obtain ⟨B4,hB4⟩:∃ B,B=sealB4 stamp pl:=⟨_,rfl⟩
 obtain ⟨B5,hB5⟩:∃ B,B=zBs stamp pl:=⟨_,rfl⟩
 rw [← hB5]
 simp only [← hB1,← hB2,← hB3,← hB4,← hB5] at l1 l2 l3 l4 l5 c1 c2 c3 c4 c5 e3
 clear hB1 hB2 hB3 hB4 hB5
 refine Ct.enter Tryz.func134 rfl Tryz.ntmps134 (by simp) (fun R=>?_)
 repeat' (first|(refine zAd ?_;first|(refine zAc xE (c5 _ _) xP rfl (fun _=>?_))|(refine zAc xE (c4 _ _) xP rfl (fun _=>?_))|(refine zAc xE c3 xP rfl (fun _=>?_))|(refine zAc xE (c2 _) xP rfl (fun _=>?_))|(refine zAc xE (c1 _) xP rfl (fun _=>?_)))|(refine is_copy ?_;refine KJ_copyStrB (l':=B3) rfl rfl xS (by show pl.length≤256-10;omega) (by show 10+pl.length≤B2.length;omega) e3 xR rfl ?_)|(refine is_mkSlice ?_;refine KJ_makeBytes (m:=256) rfl rfl rfl (by omega) rfl (fun g=>?_))|(refine zBu ?_;first|refine zAb (Ev_bytesTake rfl xS (by show 244≤B3.length;omega)) ?_|refine zAb (Ev_bytesAll rfl xS l5) ?_)|(refine zCg ?_;first|refine zAb (Ev_sliceTo rfl rfl (by omega)) ?_|refine zAb (Ev_sliceFrom rfl rfl (by omega)) ?_)|(refine zBg ?_;refine zAb (Ev_eqlI_f rfl rfl h0) ?_)|refine xst ?_|(refine xsa ?_;intro _)|(refine xsb ?_ ?_ <;>intro _<;>try (exfalso;omega))|refine xsc ?_|(refine zAa (id:=2) plTBK2 (by kernel_rfl) (by kernel_rfl) ?_)|(refine zAa (id:=4) plTBK2 (by kernel_rfl) (by kernel_rfl) ?_)|(refine zAa (id:=9) plTBK3 (by kernel_rfl) (by kernel_rfl) ?_)|refine zAp ?_ ?_|refine zAn rfl rfl rfl rfl rfl ?_ ?_|refine zAg ?_ ?_|exact Rech.nil|fail)
 all_goals (exact xdn ())
theorem seal_long {W:World} {E:Nat→Addr} (hE:ErrsOn L8 W E) (stamp:Int) (pl:List UInt8) (h0:stamp≠0) (hl:234<pl.length):Ct Tryz.prog W 134 [.int .u64 stamp,strV pl] [] (fun _:Unit=>.tuple #[strV [],errV E 3]) (fun _=>[]):=by
 have e3:W.cell? ⟨12,0,none⟩=some (errV E 3):=hE.at_ 3 (by decide)
 refine Ct.enter Tryz.func134 rfl Tryz.ntmps134 (by simp) (fun R=>?_)
 repeat' (first|(refine zAm ?_;refine zAb (zAt rfl e3) ?_)|(refine zBg ?_;refine zAb (Ev_eqlI_f rfl rfl h0) ?_)|refine xst ?_|(refine xsa ?_;intro _)|(refine xsb ?_ ?_ <;>intro _<;>try (exfalso;omega))|refine xsc ?_|(refine zAa (id:=2) plTBK2 (by kernel_rfl) (by kernel_rfl) ?_)|(refine zAa (id:=4) plTBK2 (by kernel_rfl) (by kernel_rfl) ?_)|(refine zAa (id:=9) plTBK3 (by kernel_rfl) (by kernel_rfl) ?_)|refine zAp ?_ ?_|refine zAn rfl rfl rfl rfl rfl ?_ ?_|refine zAg ?_ ?_|exact Rech.nil|fail)
 all_goals (exact xdn ())
end Go.Proofs.YtgipenahkmbelaaGreatDoor
namespace Go.Proofs.YtgipenahkmbelaaGreatDoor
open Go Go.RowKit
def openN (raw:List UInt8):Nat:=(getB (raw.drop 8) 2).toNat
def openP (raw:List UInt8):List UInt8:=(raw.take (10+openN raw)).drop 10
def openS (stamp:Int) (raw:List UInt8):Option (List UInt8):=
 if stamp=0 then none else if raw.length≠256 then none else if 234<openN raw then none else if zBs stamp (openP raw)=raw then some (openP raw) else none
theorem open_zero {W:World} (raw:List UInt8):Ct Tryz.prog W 131 [.int .u64 0,strV raw] [] (fun _:Unit=>.tuple #[strV [],.bool false]) (fun _=>[]):=by
 refine Ct.enter Tryz.func131 rfl Tryz.ntmps131 (by simp) (fun R=>?_)
 repeat' (first|(refine zBg ?_;refine zAb (Ev_eqlI_t rfl rfl rfl) ?_)|refine xst ?_|(refine xsa ?_;intro _)|(refine xsb ?_ ?_ <;>intro _<;>try (exfalso;omega))|refine xsc ?_|fail)
 all_goals (exact xdn ())
theorem open_len {W:World} (stamp:Int) (raw:List UInt8) (h0:stamp≠0) (h1:raw.length≠256):Ct Tryz.prog W 131 [.int .u64 stamp,strV raw] [] (fun _:Unit=>.tuple #[strV [],.bool false]) (fun _=>[]):=by
 have hne:(raw.length:Int)≠256:=by omega
 refine Ct.enter Tryz.func131 rfl Tryz.ntmps131 (by simp) (fun R=>?_)
 repeat' (first|(refine zBg ?_;refine zAb (Ev_eqlI_f rfl rfl h0) ?_)|(refine zBz ?_;refine zAb (Ev_neqI_t rfl rfl hne) ?_)|refine xst ?_|(refine xsa ?_;intro _)|(refine xsb ?_ ?_ <;>intro _<;>try (exfalso;omega))|refine xsc ?_|fail)
 all_goals (exact xdn ())
theorem openN_int (raw:List UInt8):getB (raw.drop 8) 2=(openN raw:Int)∧openN raw<65536:=by
 have:=getB_two (raw.drop 8)
 unfold openN
 omega
theorem openP_length (raw:List UInt8) (h1:raw.length=256) (h2:openN raw≤234):(openP raw).length=openN raw:=by
 unfold openP
 rw [List.length_drop,List.length_take]
 omega
set_option maxRecDepth 100000 in
theorem open_more {W:World} (stamp:Int) (raw:List UInt8) (h0:stamp≠0) (h1:raw.length=256) (h2:234<openN raw):Ct Tryz.prog W 131 [.int .u64 stamp,strV raw] [] (fun _:Unit=>.tuple #[strV [],.bool false]) (fun _=>[]):=by
 have hq:(raw.length:Int)=256:=by omega
 obtain ⟨e1,e2⟩:=openN_int raw
 have c1:Ct Tryz.prog W 174 [strV (raw.drop (8:Int).toNat),.int .i64 2] [] (fun _:Unit=>.int .u64 (openN raw:Nat)) (fun _=>[]):=by rw [← e1];exact get_ct (raw.drop 8) 2 (by rw [List.length_drop];omega) (by omega)
 have hgt:decide ((234:Int)<(openN raw:Nat))=true:=decide_eq_true (by omega)
 refine Ct.enter Tryz.func131 rfl Tryz.ntmps131 (by simp) (fun R=>?_)
 repeat' (first|(refine zAd ?_;refine zAc xE c1 xP rfl (fun _=>?_))|(refine zBu ?_;refine zAb (Ev_convI64 rfl (by omega)) ?_)|(refine zCg ?_;refine zAb (Ev_sliceStrFrom rfl rfl (by omega)) ?_)|(refine zBg ?_;refine zAb (Ev_eqlI_f rfl rfl h0) ?_)|(refine zBz ?_;refine zAb (zCh rfl rfl hq) ?_)|(refine zBf ?_;refine zAb (zAk rfl rfl hgt) ?_)|refine xst ?_|(refine xsa ?_;intro _)|(refine xsb ?_ ?_ <;>intro _<;>try (exfalso;omega))|refine xsc ?_|fail)
 all_goals (exact xdn ())
set_option maxRecDepth 100000 in
theorem open_near {W:World} (hN:NibAt W) (stamp:Int) (raw:List UInt8) (h0:stamp≠0) (h1:raw.length=256) (h2:openN raw≤234) (q:Bool) (hs:decide (zBs stamp (openP raw)≠raw)=q) :
 Ct Tryz.prog W 131 [.int .u64 stamp,strV raw] [] (fun _:Unit=>.tuple #[strV (if q then [] else openP raw),.bool (!q)]) (fun _=>[]):=by
 have hq:(raw.length:Int)=256:=by omega
 obtain ⟨e1,e2⟩:=openN_int raw
 have c1:Ct Tryz.prog W 174 [strV (raw.drop (8:Int).toNat),.int .i64 2] [] (fun _:Unit=>.int .u64 (openN raw:Nat)) (fun _=>[]):=by rw [← e1];exact get_ct (raw.drop 8) 2 (by rw [List.length_drop];omega) (by omega)
 have hgt:decide ((234:Int)<(openN raw:Nat))=false:=decide_eq_false (by omega)
 have hpl:=openP_length raw h1 h2
 have c2:Ct Tryz.prog W 134 [.int .u64 stamp,strV (openP raw)] [] (fun _:Unit=>.tuple #[strV (zBs stamp (openP raw)),.nilIface]) (fun _=>[]):=seal_ok hN stamp _ h0 (by omega)
 have ep:(raw.take ((10:Int)+(openN raw:Nat)).toNat).drop (10:Int).toNat=openP raw:=by
  unfold openP
  rw [show ((10:Int)+(openN raw:Nat)).toNat=10+openN raw from by omega]
  rfl
 have hsl:∀ {n:Nat} {E:Env} {H:List SP} {x y z:Operand},Env.ev E x=some (strV raw)→Env.ev E y=some (.int .i64 10)→Env.ev E z=some (.int .i64 ((10:Int)+(openN raw:Nat)))→Ev Tryz.prog W n E H (.slice 9 x (some y) (some z) none) (strV (openP raw)):=fun hx hy hz=>by
  rw [← ep];exact Ev_sliceStr hx hy hz (by omega)
 have hsn:∀ {n:Nat} {E:Env} {H:List SP} {x y:Operand} {t u:TypeId},Env.ev E x=some (strV (zBs stamp (openP raw)))→Env.ev E y=some (strV raw)→Ev Tryz.prog W n E H (.binOp .neq t x y u) (.bool q):=fun hx hy=>by
  rw [← hs];exact Ev_neqS hx hy
 cases q with
 |true=>
  refine Ct.enter Tryz.func131 rfl Tryz.ntmps131 (by simp) (fun R=>?_)
  repeat' (first|(refine zAd ?_;first|(refine zAc xE c2 xP rfl (fun _=>?_))|(refine zAc xE c1 xP rfl (fun _=>?_)))|(refine zBu ?_;refine zAb (Ev_convI64 rfl (by omega)) ?_)|(refine zCg ?_;first|refine zAb (hsl rfl rfl rfl) ?_|refine zAb (Ev_sliceStrFrom rfl rfl (by omega)) ?_)|(refine zBg ?_;refine zAb (Ev_eqlI_f rfl rfl h0) ?_)|(refine zBz ?_;first|refine zAb (hsn rfl rfl) ?_|refine zAb (zCh rfl rfl hq) ?_)|(refine zBf ?_;refine zAb (zAk rfl rfl hgt) ?_)|refine xst ?_|(refine xsa ?_;intro _)|(refine xsb ?_ ?_ <;>intro _<;>try (exfalso;omega))|refine xsc ?_|fail)
  all_goals (exact xdn ())
 |false=>
  refine Ct.enter Tryz.func131 rfl Tryz.ntmps131 (by simp) (fun R=>?_)
  repeat' (first|(refine zAd ?_;first|(refine zAc xE c2 xP rfl (fun _=>?_))|(refine zAc xE c1 xP rfl (fun _=>?_)))|(refine zBu ?_;refine zAb (Ev_convI64 rfl (by omega)) ?_)|(refine zCg ?_;first|refine zAb (hsl rfl rfl rfl) ?_|refine zAb (Ev_sliceStrFrom rfl rfl (by omega)) ?_)|(refine zBg ?_;refine zAb (Ev_eqlI_f rfl rfl h0) ?_)|(refine zBz ?_;first|refine zAb (hsn rfl rfl) ?_|refine zAb (zCh rfl rfl hq) ?_)|(refine zBf ?_;refine zAb (zAk rfl rfl hgt) ?_)|refine xst ?_|(refine xsa ?_;intro _)|(refine xsb ?_ ?_ <;>intro _<;>try (exfalso;omega))|refine xsc ?_|fail)
  all_goals (exact xdn ())
theorem open_ct {W:World} (hN:NibAt W) (stamp:Int) (raw:List UInt8):Ct Tryz.prog W 131 [.int .u64 stamp,strV raw] [] (fun _:Unit=>.tuple #[strV ((openS stamp raw).getD []),.bool (openS stamp raw).isSome]) (fun _=>[]):=by
 by_cases h0:stamp=0
 ·subst h0
  exact (open_zero raw).val fun _=>by simp [openS]
 by_cases h1:raw.length=256
 ·by_cases h2:234<openN raw
  ·exact (open_more stamp raw h0 h1 h2).val fun _=>by simp [openS,h0,h1,h2]
  ·by_cases hs:zBs stamp (openP raw)=raw
   ·refine (open_near hN stamp raw h0 h1 (by omega) false (decide_eq_false (by simpa using hs))).val fun _=>?_
    have:openS stamp raw=some (openP raw):=by unfold openS;rw [if_neg h0,if_neg (by simpa using h1),if_neg h2,if_pos hs]
    rw [this];rfl
   ·refine (open_near hN stamp raw h0 h1 (by omega) true (decide_eq_true hs)).val fun _=>?_
    have:openS stamp raw=none:=by unfold openS;rw [if_neg h0,if_neg (by simpa using h1),if_neg h2,if_neg hs]
    rw [this];rfl
 ·exact (open_len stamp raw h0 h1).val fun _=>by simp [openS,h0,h1]
end Go.Proofs.YtgipenahkmbelaaGreatDoor
