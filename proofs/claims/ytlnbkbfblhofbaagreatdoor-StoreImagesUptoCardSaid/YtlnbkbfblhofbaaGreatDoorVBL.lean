/-
  Sec, Sec2, Sec3, Sec4.
-/
import Derived.Test.YtlnbkbfblhofbaaGreatDoorVCL
set_option maxRecDepth 100000
set_option maxHeartbeats 64000000
namespace Go.Proofs.YtlnbkbfblhofbaaGreatDoor
open Go Go.RowKit
open Go.Proofs.Tryz
abbrev yWn:Pl:=(.op 0 (.op 1 (.op 2 (.op 3 .nil))))
abbrev yWo:Pl:=(.op 0 (.op 2 (.op 3 (.ef 1 [3,2] (.ef 4 [] (.op 5 (.op 6 (.op 7 .nil))))))))
abbrev yO5:Pl:=(.op 0 (.op 1 (.op 2 .nil)))
abbrev yWp:Pl:=(.op 0 (.op 1 (.op 2 (.op 3 (.op 4 (.ef 5 [1,0] (.op 6 (.ef 7 [] .nil))))))))
def nibT:List Int:=[0,274646895,549293790,820201905,1098587580,1361435347,1640403810,1905808397,2197175160,2460548119,2722870694,2987750089,3280807620,3553878443,3811616794,4084100981]
def NibAt (W:World):Prop:=∀ i,i<16→W.cell? ⟨37,i,none⟩=some (.int .u32 (nibT.getD i 0))
def yLg (a:Int):Int:=bits .xor .u32 (a.fdiv (2 ^ (min (4:Int).toNat IntKind.u32.bits))) (nibT.getD (bits .and .u32 a 15).toNat 0)
def yIZ (s:Int) (c:UInt8):Int:=yLg (yLg (bits .xor .u32 s (IntKind.u32.wrap c.toNat)))
def yF7 (s:Int) (l:List UInt8):Int:=l.foldl yIZ s
def yF8 (s:Int):Int:=bits .xor .u32 (if IntKind.u32.signed then -1 else IntKind.u32.max) s
def yDh (l:List UInt8):Int:=yF8 (yF7 (yF8 0) l)
theorem yY9 (a:Int):0≤bits .and .u32 a 15∧bits .and .u32 a 15<((16:Nat):Int):=by
 have h:(BitVec.ofInt 32 a &&& BitVec.ofInt 32 15).toNat≤15:=by
  rw [BitVec.toNat_and]
  exact Nat.and_le_right
 have e:bits .and .u32 a 15=IntKind.u32.wrap ((BitVec.ofInt 32 a &&& BitVec.ofInt 32 15).toNat):=rfl
 have e2:IntKind.u32.wrap ((BitVec.ofInt 32 a &&& BitVec.ofInt 32 15).toNat)=((BitVec.ofInt 32 a &&& BitVec.ofInt 32 15).toNat:Int) % 4294967296:=rfl
 rw [e,e2]
 omega
theorem NibAt.at_ {W:World} (h:NibAt W) (a:Int):W.cell? ⟨37,0+(bits .and .u32 a 15).toNat*1,none⟩=some (.int .u32 (nibT.getD (bits .and .u32 a 15).toNat 0)):=by
 have:=yY9 a
 rw [zLq,Nat.mul_one]
 exact h _ zO
theorem yNR (s:Int) (l:List UInt8) (i:Nat) (c:UInt8) (h:l[i]? = some c):yF7 s (l.take (i+1))=yIZ (yF7 s (l.take i)) c:=by
 unfold yF7
 rw [List.take_add_one,h]
 simp
section
variable {P:Program} {W:World} {n:Nat} {E:Env} {H:List SP} {t:TypeId} {x:Operand}
theorem yMt {i:Int} (hx:Env.ev E x=some (.int .u32 i)):Ev P W n E H (.unOp .xor t x) (.int .u32 (yF8 i)):=yUM hx
end
theorem ySe {W:World} (hN:NibAt W) (s:Int) (l:List UInt8) (hl:l.length<4611686018427387904):CtU prog W 187 [.int .u32 s,strV l] [] (.int .u32 (yF8 (yF7 (yF8 s) l))) []:=by
 obtain ⟨A,hA⟩:∃ A:Nat→Int,A=fun i=>yF7 (yF8 s) (l.take i):=⟨_,rfl⟩
 have hA0:yF8 s=A 0:=by rw [hA];simp [yF7]
 have hAl:yF7 (yF8 s) l=A l.length:=by rw [hA];simp
 have hAn:∀ i c,l[i]? = some c→A (i+1)=yIZ (A i) c:=fun i c h=>by rw [hA];exact yNR _ l i c h
 rw [hAl]
 clear hA hAl
 refine Ct.enter func187 rfl ntmps187 zW (fun R=>?_)
 repeat' (first|refine yXc ?_;refine yAa (yMt rfl) ?_|refine xst ?_|refine xsa ?_;intro _|refine xsb ?_ ?_<;>intro _<;>try omega|refine xsc ?_|fail)
 rw [hA0]
 refine yAz (fun i:{k:Nat//k≤l.length}=>[(0,.int .u32 (A i.1)),(1,strV l),(5,.int .i64 (i.1:Nat))]) (fun _=>R) (fun i=>l.length-i.1) ⟨0,zO⟩ xB (fun _ q=>q) (fun ⟨k,hk⟩=>?_)
 dsimp only
 by_cases hlt:k<l.length
 ·obtain ⟨c,hc⟩:∃ c,l[k]? = some c:=⟨_,zLb hlt⟩
  have hnx:=hAn k c hc
  have hc':l[(k:Int).toNat]? = some c:=by rw [zLe];exact hc
  repeat' (first|refine yAj ?_;refine yAa (yAn rfl (hN.at_ _)) ?_|refine yH5 ?_;refine yAa (yIM rfl rfl (yY9 _)) ?_|refine yOV ?_;refine yAa (yAk rfl rfl zO hc') ?_|refine yH6 ?_;refine yAa (yWl rfl rfl) ?_|refine yMd ?_;refine yAa (yWk rfl rfl) ?_|refine xst ?_|refine xsa ?_;intro _|refine xsb ?_ ?_<;>intro _<;>try omega|refine xsc ?_|fail)
  refine yAp ⟨k+1,zO⟩ (by show l.length-(k+1)<l.length-k;omega) ?_ (fun _ q=>q)
  rw [hnx]
  exact xB
 ·have hkl:k=l.length:=by omega
  subst hkl
  repeat' (first|refine yXc ?_;refine yAa (yMt rfl) ?_|refine xst ?_|refine xsa ?_;intro _|refine xsb ?_ ?_<;>intro _<;>try omega|refine xsc ?_|exact xdn ()|fail)
theorem yZa {W:World} (hN:NibAt W) (l:List UInt8) (hl:l.length<4611686018427387904):CtU prog W 145 [strV l] [] (.int .u32 (yDh l)) []:=by
 have c1:CtU prog W 187 [.int .u32 0,strV l] [] (.int .u32 (yDh l)) []:=ySe hN 0 l hl
 refine Ct.enter func145 rfl ntmps145 zW (fun R=>?_)
 repeat' (first|refine yAb ?_;refine xca c1 fun _=>?_|refine xst ?_|refine xsa ?_;intro _|refine xsb ?_ ?_<;>intro _<;>try omega|refine xsc ?_|exact xdn ()|fail)
def yMu (x:Int) (i:Nat):Int:=IntKind.u8.wrap (x.fdiv (2 ^ (min (8*(i:Int)).toNat IntKind.u64.bits)))
def yCs (x:Int) (i:Nat):UInt8:=UInt8.ofNat (yMu x i).toNat
theorem ySf (x:Int) (i:Nat):Value.int .u8 (yMu x i)=bv (yCs x i):=by
 have e:yMu x i=(x.fdiv (2 ^ (min (8*(i:Int)).toNat IntKind.u64.bits))) % 256:=rfl
 have h:0≤yMu x i∧yMu x i<256:=by rw [e];omega
 unfold bv yCs
 rw [UInt8.toNat_ofNat']
 congr 1
 omega
def yEo (x:Int) (n:Nat):List UInt8:=(List.range n).map (yCs x)
theorem yAD (x:Int) (n:Nat):(yEo x n).length=n:=by simp [yEo]
theorem yMv (x:Int) (n:Nat):yEo x (n+1)=yEo x n++[yCs x n]:=by simp [yEo,List.range_succ]
theorem yUO (l:List UInt8) (o:Nat) (b:List UInt8) (c:UInt8) (h:o+b.length<l.length):lay (lay l o b) (o+b.length) [c]=lay l o (b++[c]):=by
 unfold lay
 have e1:(l.take o++(b++l.drop (o+b.length))).take (o+b.length)=l.take o++b:=by
  rw [← zLd,List.take_left' (by simp;omega)]
 have e2:(l.take o++(b++l.drop (o+b.length))).drop (o+b.length+[c].length)=l.drop (o+(b++[c]).length):=by
  rw [← zLd,zLG,zLl (by simp;omega)]
  simp only [List.nil_append,List.drop_drop]
  congr 1
  simp
  omega
 rw [e1,e2]
 simp
theorem yUP (l:List UInt8) (o:Nat) (b:List UInt8) (c:UInt8) (h:o+b.length<l.length):lay (bvs (lay l o b)) (o+b.length) [bv c]=bvs (lay l o (b++[c])):=by
 rw [show [bv c]=bvs [c] from rfl,yK4,yUO l o b c h]
theorem yO6 {W:World} (g off m c:Nat) (l:List UInt8) (x:Int) (n:Nat) (h1:n≤m) (h2:off+m≤l.length) (h3:m≤1048576) (T:TypeId) :
 CtU prog W 144 [.slice (some ⟨g,off,none⟩) m c,.int .u64 x,.int .i64 (n:Nat)] [yAi g (bvs l) T] (.tuple #[]) [yAi g (bvs (lay l off (yEo x n))) T]:=by
 refine Ct.enter func144 rfl ntmps144 zW (fun R=>?_)
 repeat' (first|refine xst ?_|refine xsa ?_;intro _|refine xsb ?_ ?_<;>intro _<;>try omega|refine xsc ?_|fail)
 have h0:lay l off (yEo x 0)=l:=yRI l off
 refine yAz (fun i:{k:Nat//k≤n}=>[(0,.slice (some ⟨g,off,none⟩) m c),(1,.int .u64 x),(7,.int .i64 (n:Nat)),(8,.int .i64 (i.1:Nat))]) (fun i=>[yAi g (bvs (lay l off (yEo x i.1))) T]++R) (fun i=>n-i.1) ⟨0,zO⟩ xB
  (by show ∀ h,yAA ([yAi g (bvs l) T]++R) h→yAA ([yAi g (bvs (lay l off (yEo x 0))) T]++R) h;rw [h0];exact fun _ q=>q) (fun ⟨k,hk⟩=>?_)
 dsimp only
 by_cases hlt:k<n
 ·have hlen:(lay l off (yEo x k)).length=l.length:=yBm _ _ _ (by rw [yAD];omega)
  have hfit:off+(k:Int).toNat*1+[Value.int IntKind.u8 (yMu x k)].length≤(bvs (lay l off (yEo x k))).length:=by rw [bvs_length',hlen];simp;omega
  repeat' (first|refine yFJ ?_;refine yOQ (v:=.int .u8 (yMu x k)) rfl rfl xS xF (by rfl) xO (Laid.of hfit) xR ?_|refine xst ?_|refine xsa ?_;intro _|refine xsb ?_ ?_<;>intro _<;>try omega|refine xsc ?_|fail)
  refine yAp ⟨k+1,zO⟩ (by show n-(k+1)<n-k;omega) xB ?_
  have e:=yUP l off (yEo x k) (yCs x k) (by rw [yAD];omega)
  rw [yAD,← yMv,← ySf] at e
  have e3:off+(k:Int).toNat*1=off+k:=zW
  rw [e3,e]
  exact (xN)
 ·have hkn:k=n:=by omega
  subst hkn
  repeat' (first|refine xst ?_|refine xsa ?_;intro _|refine xsb ?_ ?_<;>intro _<;>try omega|refine xsc ?_|exact xdn ()|fail)
def yDN (x:Int) (i:Nat) (c:UInt8):Int:=bits .or .u64 x (IntKind.u64.wrap (IntKind.u64.wrap c.toNat*2 ^ (min (8*(i:Int)).toNat IntKind.u64.bits)))
def yCt (l:List UInt8):Nat→Int
 |0=>0
 |n+1=>yDN (yCt l n) n (l.getD n 0)
theorem ySg (op:BinOp) (hop:op=.and∨op=.or∨op=.xor) (x y:Int) (m:Nat) (hm:m≤64) (hx:0≤x∧x<2 ^ m) (hy:0≤y∧y<2 ^ m):0≤bits op .u64 x y∧bits op .u64 x y<2 ^ m:=by
 have hp:(2:Int) ^ m≤18446744073709551616:=by
  have:(2:Nat) ^ m≤2 ^ 64:=Nat.pow_le_pow_right zO hm
  have h2:((2 ^ m:Nat):Int)≤((2 ^ 64:Nat):Int):=by exact_mod_cast this
  simpa using h2
 have b1:(BitVec.ofInt 64 x).toNat=x.toNat:=by
  rw [BitVec.toNat_ofInt];omega
 have b2:(BitVec.ofInt 64 y).toNat=y.toNat:=by
  rw [BitVec.toNat_ofInt];omega
 have hpc:((2 ^ m:Nat):Int)=2 ^ m:=zW
 have hx':x.toNat<2 ^ m:=zO
 have hy':y.toNat<2 ^ m:=zO
 have key:∀ r:Nat,r<2 ^ m→0≤IntKind.u64.wrap (r:Int)∧IntKind.u64.wrap (r:Int)<2 ^ m:=fun r hr=>by
  have e:IntKind.u64.wrap (r:Int)=(r:Int) % 18446744073709551616:=rfl
  rw [e]
  omega
 rcases hop with rfl|rfl|rfl
 ·refine key _ ?_
  show (BitVec.ofInt 64 x &&& BitVec.ofInt 64 y).toNat<_
  rw [BitVec.toNat_and,b1,b2]
  exact Nat.and_lt_two_pow _ hy'
 ·refine key _ ?_
  show (BitVec.ofInt 64 x ||| BitVec.ofInt 64 y).toNat<_
  rw [BitVec.toNat_or,b1,b2]
  exact Nat.or_lt_two_pow hx' hy'
 ·refine key _ ?_
  show (BitVec.ofInt 64 x ^^^ BitVec.ofInt 64 y).toNat<_
  rw [BitVec.toNat_xor,b1,b2]
  exact Nat.xor_lt_two_pow hx' hy'
theorem xAn (c:UInt8):IntKind.u64.wrap (IntKind.u64.wrap c.toNat*2 ^ (min (8*((0:Nat):Int)).toNat IntKind.u64.bits))=(c.toNat:Int):=by
 have h0:=zLy c
 have e:∀ z,IntKind.u64.wrap z=z % 18446744073709551616:=fun _=>rfl
 have e2:(min (8*((0:Nat):Int)).toNat IntKind.u64.bits)=0:=rfl
 rw [e,e,e2]
 omega
theorem xAo (c:UInt8):IntKind.u64.wrap (IntKind.u64.wrap c.toNat*2 ^ (min (8*((1:Nat):Int)).toNat IntKind.u64.bits))=(c.toNat:Int)*256:=by
 have h0:=zLy c
 have e:∀ z,IntKind.u64.wrap z=z % 18446744073709551616:=fun _=>rfl
 have e2:(min (8*((1:Nat):Int)).toNat IntKind.u64.bits)=8:=rfl
 rw [e,e,e2]
 omega
theorem yUQ (l:List UInt8):0≤yCt l 2∧yCt l 2<65536:=by
 have e3:yCt l 2=bits .or .u64 (bits .or .u64 0 ((l.getD 0 0).toNat:Int)) (((l.getD 1 0).toNat:Int)*256):=by
  show yDN (yDN 0 0 (l.getD 0 0)) 1 (l.getD 1 0)=_
  unfold yDN
  rw [xAn,xAo]
 rw [e3]
 obtain ⟨c0,hc0⟩:∃ c,c=l.getD 0 0:=⟨_,rfl⟩
 obtain ⟨c1,hc1⟩:∃ c,c=l.getD 1 0:=⟨_,rfl⟩
 rw [← hc0,← hc1]
 have h0:=zLy c0
 have h1:=zLy c1
 have a1:=ySg .or (.inr (.inl rfl)) 0 (c0.toNat:Int) 16 zO zO zO
 have a2:=ySg .or (.inr (.inl rfl)) (bits .or .u64 0 (c0.toNat:Int)) ((c1.toNat:Int)*256) 16 zO a1 zO
 exact a2
theorem yO7 {W:World} (l:List UInt8) (n:Nat) (h1:n≤l.length) (h2:n≤1048576):CtU prog W 157 [strV l,.int .i64 (n:Nat)] [] (.int .u64 (yCt l n)) []:=by
 obtain ⟨A,hA⟩:∃ A:Nat→Int,A=yCt l:=⟨_,rfl⟩
 have hA0:A 0=0:=by rw [hA];rfl
 have hAn:∀ i,A (i+1)=yDN (A i) i (l.getD i 0):=fun i=>by rw [hA];rfl
 rw [← hA]
 clear hA
 refine Ct.enter func157 rfl ntmps157 zW (fun R=>?_)
 repeat' (first|refine xst ?_|refine xsa ?_;intro _|refine xsb ?_ ?_<;>intro _<;>try omega|refine xsc ?_|fail)
 refine yAz (fun i:{k:Nat//k≤n}=>[(0,strV l),(5,.int .u64 (A i.1)),(7,.int .i64 (n:Nat)),(8,.int .i64 (i.1:Nat))]) (fun _=>R) (fun i=>n-i.1) ⟨0,zO⟩ ?_ (fun _ q=>q) (fun ⟨k,hk⟩=>?_)
 ·exact Subs.cons rfl (Subs.cons (show _=some (Value.int .u64 (A 0)) from by rw [hA0];rfl) xB)
 dsimp only
 by_cases hlt:k<n
 ·obtain ⟨c,hc⟩:∃ c,l[k]? = some c:=⟨_,zLb zO⟩
  have hnx:=hAn k
  have hcd:l.getD k 0=c:=by rw [List.getD,hc];rfl
  rw [hcd] at hnx
  have hc':l[(k:Int).toNat]? = some c:=by rw [zLe];exact hc
  repeat' (first|refine yOV ?_;refine yAa (yAk rfl rfl zO hc') ?_|refine yYZ ?_;refine yAa (yXs rfl rfl) ?_|refine xst ?_|refine xsa ?_;intro _|refine xsb ?_ ?_<;>intro _<;>try omega|refine xsc ?_|fail)
  refine yAp ⟨k+1,zO⟩ (by show n-(k+1)<n-k;omega) ?_ (fun _ q=>q)
  rw [hnx]
  exact xB
 ·have hkn:k=n:=by omega
  subst hkn
  repeat' (first|refine xst ?_|refine xsa ?_;intro _|refine xsb ?_ ?_<;>intro _<;>try omega|refine xsc ?_|exact xdn ()|fail)
def yQe (raw:List UInt8):Nat:=if raw.length=256 then 0 else 7
def yUR (raw:List UInt8):Int:=if raw.length=256 then yCt raw 8 else 0
def yUS (raw:List UInt8):Int:=if raw.length=256 then yCt (raw.drop 248) 8 else 0
theorem yUT {W:World} {E:Nat→Addr} (hE:ErrsOn L8 W E) (raw:List UInt8) (h:raw.length≠256):CtU prog W 118 [strV raw] [] (.tuple #[.int .u64 0,.int .u64 0,yAr E 7]) []:=by
 have e7:W.cell? ⟨0,0,none⟩=some (yAr E 7):=hE.at_ 7 zX
 have hne:(raw.length:Int)≠256:=zO
 refine Ct.enter func118 rfl ntmps118 zW (fun R=>?_)
 repeat' (first|refine yAj ?_;refine yAa (yAn rfl e7) ?_|refine yD3 ?_;refine yAa (yA0 rfl rfl hne) ?_|refine xst ?_|refine xsa ?_;intro _|refine xsb ?_ ?_<;>intro _<;>try omega|refine xsc ?_|refine xdr 2 yWn ?_|refine xdr 3 yWo ?_|refine xsd ?_ ?_|exact Rech.nil|exact xdn ()|fail)
theorem yXt {W:World} (raw:List UInt8) (h:raw.length=256):CtU prog W 118 [strV raw] [] (.tuple #[.int .u64 (yCt raw 8),.int .u64 (yCt (raw.drop 248) 8),.nilIface]) []:=by
 have hq:(raw.length:Int)=256:=zO
 have c1:CtU prog W 157 [strV raw,.int .i64 8] [] (.int .u64 (yCt raw 8)) []:=yO7 raw 8 zO zO
 have c2:CtU prog W 157 [strV (raw.drop (248:Int).toNat),.int .i64 8] [] (.int .u64 (yCt (raw.drop 248) 8)) []:=yO7 (raw.drop 248) 8 (by simp;omega) zO
 refine Ct.enter func118 rfl ntmps118 zW (fun R=>?_)
 repeat' (first|(refine yAb ?_;first|refine xca c2 fun _=>?_|refine xca c1 fun _=>?_)|refine yAQ ?_;refine yAa (yBS rfl rfl zO) ?_|refine yD3 ?_;refine yAa (yAv rfl rfl hq) ?_|refine xst ?_|refine xsa ?_;intro _|refine xsb ?_ ?_<;>intro _<;>try omega|refine xsc ?_|refine xdr 2 yWn ?_|refine xdr 3 yWo ?_|refine xsd ?_ ?_|exact Rech.nil|exact xdn ()|fail)
def yIf (stamp:Int):List UInt8:=lay (List.replicate 256 0) 0 (yEo stamp 8)
def yF9 (stamp:Int) (pl:List UInt8):List UInt8:=lay (yIf stamp) 8 (yEo (IntKind.u64.wrap pl.length) 2)
def yDi (stamp:Int) (pl:List UInt8):List UInt8:=lay (yF9 stamp pl) 10 pl
def yGV (stamp:Int) (pl:List UInt8):List UInt8:=lay (yDi stamp pl) 244 (yEo (IntKind.u64.wrap (yDh ((yDi stamp pl).take 244))) 4)
def yAx (stamp:Int) (pl:List UInt8):List UInt8:=lay (yGV stamp pl) 248 (yEo stamp 8)
theorem yCT (stamp:Int):(yIf stamp).length=256:=by
 unfold yIf;rw [yBm _ _ _ (by rw [yAD,zLB];omega),zLB]
theorem yCn (stamp:Int) (pl:List UInt8):(yF9 stamp pl).length=256:=by
 unfold yF9;rw [yBm _ _ _ (by rw [yAD,yCT];omega),yCT]
theorem yDu (stamp:Int) (pl:List UInt8) (h:pl.length≤234):(yDi stamp pl).length=256:=by
 unfold yDi;rw [yBm _ _ _ (by rw [yCn];omega),yCn]
theorem yCU (stamp:Int) (pl:List UInt8) (h:pl.length≤234):(yGV stamp pl).length=256:=by
 unfold yGV;rw [yBm _ _ _ (by rw [yAD,yDu _ _ h];omega),yDu _ _ h]
theorem yAV (stamp:Int) (pl:List UInt8) (h:pl.length≤234):(yAx stamp pl).length=256:=by
 unfold yAx;rw [yBm _ _ _ (by rw [yAD,yCU _ _ h];omega),yCU _ _ h]
theorem yLh {W:World} (hN:NibAt W) (stamp:Int) (pl:List UInt8) (h0:stamp≠0) (hl:pl.length≤234) :
 CtU prog W 104 [.int .u64 stamp,strV pl] [] (.tuple #[strV (yAx stamp pl),.nilIface]) []:=by
 have l1:=yCT stamp
 have l2:=yCn stamp pl
 have l3:=yDu stamp pl hl
 have l4:=yCU stamp pl hl
 have l5:=yAV stamp pl hl
 have c1:∀ g,CtU prog W 144 [.slice (some ⟨g,0,none⟩) 256 256,.int .u64 stamp,.int .i64 8] [yAi g (bvs (List.replicate 256 0)) 5] (.tuple #[]) [yAi g (bvs (yIf stamp)) 5]:=fun g=>yO6 g 0 256 256 _ stamp 8 zO (by rw [zLB];omega) zO _
 have c2:∀ g,CtU prog W 144 [.slice (some ⟨g,8,none⟩) 248 248,.int .u64 (IntKind.u64.wrap pl.length),.int .i64 2] [yAi g (bvs (yIf stamp)) 5] (.tuple #[]) [yAi g (bvs (yF9 stamp pl)) 5]:=fun g=>yO6 g 8 248 248 _ _ 2 zO zO zO _
 have c3:CtU prog W 145 [strV ((yDi stamp pl).take 244)] [] (.int .u32 (yDh ((yDi stamp pl).take 244))) []:=yZa hN _ (by rw [zLg];omega)
 have c4:∀ g c,CtU prog W 144 [.slice (some ⟨g,244,none⟩) 12 c,.int .u64 (IntKind.u64.wrap (yDh ((yDi stamp pl).take 244))),.int .i64 4] [yAi g (bvs (yDi stamp pl)) 5] (.tuple #[]) [yAi g (bvs (yGV stamp pl)) 5]:=fun g c=>yO6 g 244 12 c _ _ 4 zO zO zO _
 have c5:∀ g c,CtU prog W 144 [.slice (some ⟨g,248,none⟩) 8 c,.int .u64 stamp,.int .i64 8] [yAi g (bvs (yGV stamp pl)) 5] (.tuple #[]) [yAi g (bvs (yAx stamp pl)) 5]:=fun g c=>yO6 g 248 8 c _ _ 8 zO zO zO _
 have e3:lay (yF9 stamp pl) 10 pl=yDi stamp pl:=rfl
 obtain ⟨B1,hB1⟩:∃ B,B=yIf stamp:=⟨_,rfl⟩
 obtain ⟨B2,hB2⟩:∃ B,B=yF9 stamp pl:=⟨_,rfl⟩
 obtain ⟨B3,hB3⟩:∃ B,B=yDi stamp pl:=⟨_,rfl⟩
 obtain ⟨B4,hB4⟩:∃ B,B=yGV stamp pl:=⟨_,rfl⟩
 obtain ⟨B5,hB5⟩:∃ B,B=yAx stamp pl:=⟨_,rfl⟩
 rw [← hB5]
 simp only [← hB1,← hB2,← hB3,← hB4,← hB5] at l1 l2 l3 l4 l5 c1 c2 c3 c4 c5 e3
 clear hB1 hB2 hB3 hB4 hB5
 refine Ct.enter func104 rfl ntmps104 zW (fun R=>?_)
 repeat' (first|(refine yAb ?_;first|refine xca (c5 _ _) fun _=>?_|refine xca (c4 _ _) fun _=>?_|refine xca c3 fun _=>?_|refine xca (c2 _) fun _=>?_|refine xca (c1 _) fun _=>?_)|refine yXd ?_;refine yNP (l':=B3) rfl rfl xS (by show pl.length≤256-10;omega) (by show 10+pl.length≤B2.length;omega) e3 xR rfl ?_|refine yHy ?_;refine yH9 (m:=256) rfl rfl rfl zO rfl (fun g=>?_)|(refine yEf ?_;first|refine yAa (yMr rfl xS (by show 244≤B3.length;omega)) ?_|refine yAa (yC4 rfl xS l5) ?_)|(refine yAQ ?_;first|refine yAa (yQc rfl rfl zO) ?_|refine yAa (yMp rfl rfl zO) ?_)|refine yDe ?_;refine yAa (yBl rfl rfl h0) ?_|refine xst ?_|refine xsa ?_;intro _|refine xsb ?_ ?_<;>intro _<;>try omega|refine xsc ?_|refine xdr 2 yO5 ?_|refine xdr 4 yO5 ?_|refine xdr 9 yWp ?_|refine xsd ?_ ?_|exact Rech.nil|exact xdn ()|fail)
theorem ySh {W:World} {E:Nat→Addr} (hE:ErrsOn L8 W E) (stamp:Int) (pl:List UInt8) (h0:stamp≠0) (hl:234<pl.length):CtU prog W 104 [.int .u64 stamp,strV pl] [] (.tuple #[strV [],yAr E 3]) []:=by
 have e3:W.cell? ⟨9,0,none⟩=some (yAr E 3):=hE.at_ 3 zX
 refine Ct.enter func104 rfl ntmps104 zW (fun R=>?_)
 repeat' (first|refine yAj ?_;refine yAa (yAn rfl e3) ?_|refine yDe ?_;refine yAa (yBl rfl rfl h0) ?_|refine xst ?_|refine xsa ?_;intro _|refine xsb ?_ ?_<;>intro _<;>try omega|refine xsc ?_|refine xdr 2 yO5 ?_|refine xdr 4 yO5 ?_|refine xdr 9 yWp ?_|refine xsd ?_ ?_|exact Rech.nil|exact xdn ()|fail)
def yC6 (raw:List UInt8):Nat:=(yCt (raw.drop 8) 2).toNat
def yDV (raw:List UInt8):List UInt8:=(raw.take (10+yC6 raw)).drop 10
def yBU (stamp:Int) (raw:List UInt8):Option (List UInt8):=
 if stamp=0 then none else if raw.length≠256 then none else if 234<yC6 raw then none else if yAx stamp (yDV raw)=raw then some (yDV raw) else none
theorem ySi {W:World} (raw:List UInt8):CtU prog W 119 [.int .u64 0,strV raw] [] (.tuple #[strV [],.bool false]) []:=by
 refine Ct.enter func119 rfl ntmps119 zW (fun R=>?_)
 repeat' (first|refine yDe ?_;refine yAa (yDf rfl rfl rfl) ?_|refine xst ?_|refine xsa ?_;intro _|refine xsb ?_ ?_<;>intro _<;>try omega|refine xsc ?_|exact xdn ()|fail)
theorem yUU {W:World} (stamp:Int) (raw:List UInt8) (h0:stamp≠0) (h1:raw.length≠256):CtU prog W 119 [.int .u64 stamp,strV raw] [] (.tuple #[strV [],.bool false]) []:=by
 have hne:(raw.length:Int)≠256:=zO
 refine Ct.enter func119 rfl ntmps119 zW (fun R=>?_)
 repeat' (first|refine yDe ?_;refine yAa (yBl rfl rfl h0) ?_|refine yD3 ?_;refine yAa (yA0 rfl rfl hne) ?_|refine xst ?_|refine xsa ?_;intro _|refine xsb ?_ ?_<;>intro _<;>try omega|refine xsc ?_|exact xdn ()|fail)
theorem yMw (raw:List UInt8):yCt (raw.drop 8) 2=(yC6 raw:Int)∧yC6 raw<65536:=by
 have:=yUQ (raw.drop 8)
 unfold yC6
 omega
theorem yD7 (raw:List UInt8) (h1:raw.length=256) (h2:yC6 raw≤234):(yDV raw).length=yC6 raw:=by
 unfold yDV
 rw [zLf,zLg]
 omega
theorem ySj {W:World} (stamp:Int) (raw:List UInt8) (h0:stamp≠0) (h1:raw.length=256) (h2:234<yC6 raw):CtU prog W 119 [.int .u64 stamp,strV raw] [] (.tuple #[strV [],.bool false]) []:=by
 have hq:(raw.length:Int)=256:=zO
 obtain ⟨e1,e2⟩:=yMw raw
 have c1:CtU prog W 157 [strV (raw.drop (8:Int).toNat),.int .i64 2] [] (.int .u64 (yC6 raw:Nat)) []:=by rw [← e1];exact yO7 (raw.drop 8) 2 (by rw [zLf];omega) zO
 have hgt:decide ((234:Int)<(yC6 raw:Nat))=true:=zY zO
 refine Ct.enter func119 rfl ntmps119 zW (fun R=>?_)
 repeat' (first|refine yAb ?_;refine xca c1 fun _=>?_|refine yEf ?_;refine yAa (yB6 rfl zO) ?_|refine yAQ ?_;refine yAa (yBS rfl rfl zO) ?_|refine yDe ?_;refine yAa (yBl rfl rfl h0) ?_|refine yD3 ?_;refine yAa (yAv rfl rfl hq) ?_|refine yF5 ?_;refine yAa (yAe rfl rfl hgt) ?_|refine xst ?_|refine xsa ?_;intro _|refine xsb ?_ ?_<;>intro _<;>try omega|refine xsc ?_|exact xdn ()|fail)
theorem yMx {W:World} (hN:NibAt W) (stamp:Int) (raw:List UInt8) (h0:stamp≠0) (h1:raw.length=256) (h2:yC6 raw≤234) (q:Bool) (hs:decide (yAx stamp (yDV raw)≠raw)=q) :
 CtU prog W 119 [.int .u64 stamp,strV raw] [] (.tuple #[strV (if q then [] else yDV raw),.bool (!q)]) []:=by
 have hq:(raw.length:Int)=256:=zO
 obtain ⟨e1,e2⟩:=yMw raw
 have c1:CtU prog W 157 [strV (raw.drop (8:Int).toNat),.int .i64 2] [] (.int .u64 (yC6 raw:Nat)) []:=by rw [← e1];exact yO7 (raw.drop 8) 2 (by rw [zLf];omega) zO
 have hgt:decide ((234:Int)<(yC6 raw:Nat))=false:=zZ zO
 have hpl:=yD7 raw h1 h2
 have c2:CtU prog W 104 [.int .u64 stamp,strV (yDV raw)] [] (.tuple #[strV (yAx stamp (yDV raw)),.nilIface]) []:=yLh hN stamp _ h0 zO
 have ep:(raw.take ((10:Int)+(yC6 raw:Nat)).toNat).drop (10:Int).toNat=yDV raw:=by
  unfold yDV
  rw [show ((10:Int)+(yC6 raw:Nat)).toNat=10+yC6 raw from by omega]
  rfl
 have hsl:∀ {n:Nat} {E:Env} {H:List SP} {x y z:Operand},Env.ev E x=some (strV raw)→Env.ev E y=some (.int .i64 10)→Env.ev E z=some (.int .i64 ((10:Int)+(yC6 raw:Nat)))→Ev prog W n E H (.slice 9 x (some y) (some z) none) (strV (yDV raw)):=fun hx hy hz=>by
  rw [← ep];exact yDH hx hy hz zO
 have hsn:∀ {n:Nat} {E:Env} {H:List SP} {x y:Operand} {t u:TypeId},Env.ev E x=some (strV (yAx stamp (yDV raw)))→Env.ev E y=some (strV raw)→Ev prog W n E H (.binOp .neq t x y u) (.bool q):=fun hx hy=>by
  rw [← hs];exact yKT hx hy
 cases q with
 |true=>
  refine Ct.enter func119 rfl ntmps119 zW (fun R=>?_)
  repeat' (first|(refine yAb ?_;first|refine xca c2 fun _=>?_|refine xca c1 fun _=>?_)|refine yEf ?_;refine yAa (yB6 rfl zO) ?_|(refine yAQ ?_;first|refine yAa (hsl rfl rfl rfl) ?_|refine yAa (yBS rfl rfl zO) ?_)|refine yDe ?_;refine yAa (yBl rfl rfl h0) ?_|(refine yD3 ?_;first|refine yAa (hsn rfl rfl) ?_|refine yAa (yAv rfl rfl hq) ?_)|refine yF5 ?_;refine yAa (yAe rfl rfl hgt) ?_|refine xst ?_|refine xsa ?_;intro _|refine xsb ?_ ?_<;>intro _<;>try omega|refine xsc ?_|exact xdn ()|fail)
 |false=>
  refine Ct.enter func119 rfl ntmps119 zW (fun R=>?_)
  repeat' (first|(refine yAb ?_;first|refine xca c2 fun _=>?_|refine xca c1 fun _=>?_)|refine yEf ?_;refine yAa (yB6 rfl zO) ?_|(refine yAQ ?_;first|refine yAa (hsl rfl rfl rfl) ?_|refine yAa (yBS rfl rfl zO) ?_)|refine yDe ?_;refine yAa (yBl rfl rfl h0) ?_|(refine yD3 ?_;first|refine yAa (hsn rfl rfl) ?_|refine yAa (yAv rfl rfl hq) ?_)|refine yF5 ?_;refine yAa (yAe rfl rfl hgt) ?_|refine xst ?_|refine xsa ?_;intro _|refine xsb ?_ ?_<;>intro _<;>try omega|refine xsc ?_|exact xdn ()|fail)
theorem yNS {W:World} (hN:NibAt W) (stamp:Int) (raw:List UInt8):CtU prog W 119 [.int .u64 stamp,strV raw] [] (.tuple #[strV ((yBU stamp raw).getD []),.bool (yBU stamp raw).isSome]) []:=by
 by_cases h0:stamp=0
 ·subst h0
  exact (ySi raw).val fun _=>by simp [yBU]
 by_cases h1:raw.length=256
 ·by_cases h2:234<yC6 raw
  ·exact (ySj stamp raw h0 h1 h2).val fun _=>by simp [yBU,h0,h1,h2]
  ·by_cases hs:yAx stamp (yDV raw)=raw
   ·refine (yMx hN stamp raw h0 h1 zO false (zZ (by simpa using hs))).val fun _=>?_
    have:yBU stamp raw=some (yDV raw):=by unfold yBU;rw [if_neg h0,if_neg (by simpa using h1),if_neg h2,if_pos hs]
    rw [this];rfl
   ·refine (yMx hN stamp raw h0 h1 zO true (zY hs)).val fun _=>?_
    have:yBU stamp raw=none:=by unfold yBU;rw [if_neg h0,if_neg (by simpa using h1),if_neg h2,if_neg hs]
    rw [this];rfl
 ·exact (yUU stamp raw h0 h1).val fun _=>by simp [yBU,h0,h1]
end Go.Proofs.YtlnbkbfblhofbaaGreatDoor
