/-
  Crq, Ref7p, Ref7, Ref7b, Ref8.
-/
import Derived.Test.YtlnbkbfblhofbaaGreatDoorVBX
set_option maxRecDepth 100000
set_option maxHeartbeats 64000000
namespace Go.Proofs.YtlnbkbfblhofbaaGreatDoor
open Go Go.RowKit
open Go.Proofs.Tryz
abbrev yWL:Pl:=(.op 0 (.op 2 (.op 3 (.op 4 (.op 7 (.op 9 (.op 10 (.op 11 (.alt (.ef 1 [11,10,9,7,4,3,2] (.alt (.ef 5 [11,10,9,7] (.op 6 (.op 8 (.ef 12 [8,6,7] (.op 13 (.op 14 (.op 15 .nil))))))) (.ef 12 [7,4,3,2] (.op 13 (.ef 5 [13,7] (.op 6 (.op 8 (.op 14 (.op 15 .nil))))))))) (.ef 12 [7,4,3,2,0] (.op 13 (.ef 1 [13,7,4,3,2] (.ef 5 [13,7] (.op 6 (.op 8 (.op 14 (.op 15 .nil)))))))))))))))))
abbrev yM3:Pl:=(.op 0 (.op 1 (.op 2 (.op 3 (.op 4 (.op 5 (.op 6 (.op 7 (.op 8 .nil)))))))))
abbrev yWM:Pl:=(.op 0 (.op 1 (.op 3 (.op 4 (.ef 2 [4,3] (.ef 5 [] (.op 6 (.op 7 (.op 8 .nil)))))))))
theorem yFy (n:Nat) (h:n<2 ^ 32):IntKind.u32.wrap (n:Int)=(n:Int):=by
 have e:IntKind.u32.wrap (n:Int)=(n:Int) % 4294967296:=rfl
 rw [e];omega
theorem yOx (x y:Nat) (hx:x<2 ^ 32) (hy:y<2 ^ 32):bits .xor .u32 (x:Int) (y:Int)=((x ^^^ y:Nat):Int):=by
 have e:bits .xor .u32 (x:Int) (y:Int)=IntKind.u32.wrap ((BitVec.ofInt 32 (x:Int) ^^^ BitVec.ofInt 32 (y:Int)).toNat:Int):=rfl
 have b1:(BitVec.ofInt 32 (x:Int)).toNat=x:=by rw [BitVec.toNat_ofInt];omega
 have b2:(BitVec.ofInt 32 (y:Int)).toNat=y:=by rw [BitVec.toNat_ofInt];omega
 rw [e,BitVec.toNat_xor,b1,b2]
 exact yFy _ (Nat.xor_lt_two_pow hx hy)
theorem yVG (x:Nat) (hx:x<2 ^ 32):bits .and .u32 (x:Int) 15=((x % 16:Nat):Int):=by
 have e:bits .and .u32 (x:Int) 15=IntKind.u32.wrap ((BitVec.ofInt 32 (x:Int) &&& BitVec.ofInt 32 15).toNat:Int):=rfl
 have b1:(BitVec.ofInt 32 (x:Int)).toNat=x:=by rw [BitVec.toNat_ofInt];omega
 have b2:(BitVec.ofInt 32 15).toNat=2 ^ 4-1:=rfl
 rw [e,BitVec.toNat_and,b1,b2,Nat.and_two_pow_sub_one_eq_mod]
 exact yFy _ zO
def yL1 (a:Nat):Nat:=(a / 2) ^^^ (if a % 2=1 then 2197175160 else 0)
theorem yYf (a:Nat) (h:a<2 ^ 32):yL1 a<2 ^ 32:=by
 unfold yL1
 exact Nat.xor_lt_two_pow zO (by split <;> omega)
theorem yVH (x y:Nat):(x ^^^ y) / 2=x / 2 ^^^ y / 2:=by
 have:=Nat.shiftRight_xor_distrib (a:=x) (b:=y) (i:=1)
 simpa [Nat.shiftRight_eq_div_pow] using this
theorem yYg (x y:Nat):(x ^^^ y) % 2=(x % 2 ^^^ y % 2):=by
 have:=Nat.xor_mod_two_pow (a:=x) (b:=y) (n:=1)
 simpa using this
theorem yVI (x y:Nat):yL1 (x ^^^ y)=yL1 x ^^^ yL1 y:=by
 unfold yL1
 rw [yVH,yYg]
 obtain ⟨p,hp⟩:∃ p:Nat,p=2197175160:=⟨_,rfl⟩
 rw [← hp]
 obtain ⟨u,hu⟩:∃ u,u=x / 2:=⟨_,rfl⟩
 obtain ⟨v,hv⟩:∃ v,v=y / 2:=⟨_,rfl⟩
 rw [← hu,← hv]
 rcases Nat.mod_two_eq_zero_or_one x with h1|h1 <;> rcases Nat.mod_two_eq_zero_or_one y with h2|h2 <;> rw [h1,h2]
 ·simp
 ·simp [Nat.xor_assoc]
 ·have e:u ^^^ v ^^^ p=u ^^^ p ^^^ v:=by rw [Nat.xor_assoc,Nat.xor_comm v p,← Nat.xor_assoc]
  simpa using e
 ·have e:(u ^^^ p) ^^^ (v ^^^ p)=u ^^^ v:=by
   rw [Nat.xor_assoc,Nat.xor_comm v p,← Nat.xor_assoc p p v,Nat.xor_self,Nat.zero_xor]
  simp [e]
def yDY:Nat→Nat→Nat
 |0,r=>r
 |k+1,r=>yL1 (yDY k r)
theorem yIC (k a:Nat) (h:a<2 ^ 32):yDY k a<2 ^ 32:=by
 induction k with
 |zero=>exact h
 |succ k ih=>exact yYf _ ih
theorem yTy (k x y:Nat):yDY k (x ^^^ y)=yDY k x ^^^ yDY k y:=by
 induction k with
 |zero=>rfl
 |succ k ih=>show yL1 (yDY k (x ^^^ y))=_;rw [ih,yVI];rfl
theorem yTz (j k a:Nat):yDY (j+k) a=yDY j (yDY k a):=by
 induction j with
 |zero=>rw [zLq];rfl
 |succ j ih=>rw [Nat.add_right_comm];show yL1 (yDY (j+k) a)=_;rw [ih];rfl
theorem yHi (m:Nat):yL1 (2*m)=m:=by
 unfold yL1
 have h1:2*m / 2=m:=zO
 have h2:¬ (2*m % 2=1):=zO
 rw [h1,if_neg h2,Nat.xor_zero]
theorem yTA (h:Nat):yDY 4 (16*h)=h:=by
 show yL1 (yL1 (yL1 (yL1 (16*h))))=h
 rw [show 16*h=2*(2*(2*(2*h))) by omega,yHi,yHi,yHi,yHi]
theorem yVJ:∀ l,l<16→nibT.getD l 0=((yDY 4 l:Nat):Int):=zX
theorem yYh (h l:Nat) (hl:l<16):(16*h) ^^^ l=16*h+l:=by
 apply Nat.eq_of_testBit_eq
 intro j
 rw [Nat.testBit_xor,show 16*h=2 ^ 4*h from rfl,Nat.testBit_two_pow_mul_add h (i:=4) hl,Nat.testBit_two_pow_mul]
 by_cases hj:j<4
 ·simp [hj,show ¬ 4≤j by omega]
 ·have:l.testBit j=false:=Nat.testBit_lt_two_pow (Nat.lt_of_lt_of_le hl (show 2 ^ 4≤2 ^ j from Nat.pow_le_pow_right zO zO))
  simp [hj,this]
  omega
theorem yPy (a:Nat) (h:a<2 ^ 32):yLg (a:Int)=((yDY 4 a:Nat):Int):=by
 unfold yLg
 have e1:(a:Int).fdiv (2 ^ (min (4:Int).toNat IntKind.u32.bits))=((a / 16:Nat):Int):=by
  rw [Int.fdiv_eq_ediv_of_nonneg _ (by exact Int.pow_nonneg zX)]
  rfl
 rw [e1,yVG a h,zLe,yVJ _ (Nat.mod_lt _ zO),yOx _ _ zO (yIC _ _ zO)]
 congr 1
 have e2:a=(16*(a / 16)) ^^^ (a % 16):=by rw [yYh _ _ (Nat.mod_lt _ zO)];omega
 conv=>rhs;rw [e2,yTy,yTA]
def yQM (r:Nat) (c:UInt8):Nat:=yDY 8 (r ^^^ c.toNat)
theorem yVK (r:Nat) (c:UInt8) (h:r<2 ^ 32):yQM r c<2 ^ 32:=by
 have:=zLy c
 exact yIC _ _ (Nat.xor_lt_two_pow h zO)
theorem yM4 (r:Nat) (c:UInt8) (h:r<2 ^ 32):yIZ (r:Int) c=((yQM r c:Nat):Int):=by
 have hc:=zLy c
 have hx:r ^^^ c.toNat<2 ^ 32:=Nat.xor_lt_two_pow h zO
 unfold yIZ yQM
 rw [yFy _ zO,yOx _ _ h zO,yPy _ hx,yPy _ (yIC _ _ hx),← yTz]
def yTB (r:Nat) (l:List UInt8):Nat:=l.foldl yQM r
theorem yJE (l:List UInt8):∀ (r:Nat),r<2 ^ 32→yF7 (r:Int) l=((yTB r l:Nat):Int)∧yTB r l<2 ^ 32:=by
 unfold yF7 yTB
 induction l with
 |nil=>intro r h;exact ⟨rfl,h⟩
 |cons c l ih=>
  intro r h
  simp only [List.foldl_cons]
  rw [yM4 r c h]
  exact ih _ (yVK r c h)
theorem yTC (s:Nat) (l:List UInt8) (i:Nat) (c:UInt8) (h:l[i]? = some c):yTB s (l.take (i+1))=yQM (yTB s (l.take i)) c:=by
 unfold yTB
 rw [List.take_add_one,h]
 simp
def yQN (s:Nat):Nat:=s ^^^ 4294967295
theorem yLL (s:Nat) (h:s<2 ^ 32):yQN s<2 ^ 32:=Nat.xor_lt_two_pow h zO
theorem yJF (s:Nat) (h:s<2 ^ 32):yF8 (s:Int)=((yQN s:Nat):Int):=by
 have:=yOx 4294967295 s zO h
 unfold yF8 yQN
 rw [Nat.xor_comm]
 exact this
theorem yJG (l:List UInt8):yDh l=((yQN (yTB (yQN 0) l):Nat):Int):=by
 unfold yDh
 have h0:=yJF 0 zO
 have h1:=yJE l (yQN 0) (yLL 0 zO)
 rw [show (0:Int)=((0:Nat):Int) from rfl,h0,h1.1,yJF _ h1.2]
theorem yLM (l:List UInt8):0≤yDh l∧yDh l<4294967296:=by
 have h1:=yJE l (yQN 0) (yLL 0 zO)
 have h2:=yLL _ h1.2
 rw [yJG]
 omega
theorem yJH (a z b:List UInt8):lay (a++z) a.length b=a++(b++z.drop b.length):=by
 unfold lay
 rw [List.take_left' rfl,zLG,zLl zO,Nat.add_sub_cancel_left,List.nil_append]
def yBB (v:Int) (s:List UInt8):List UInt8:=yEo v 8++(yEo (IntKind.u64.wrap s.length) 2++(s++zs (234-s.length)))
theorem yFz (v:Int) (s:List UInt8) (h:s.length≤234):(yBB v s).length=244:=by
 unfold yBB
 simp only [zLa,yAD,yDF]
 omega
theorem yJI (n m:Nat):(zs n).drop m=zs (n-m):=by simp [zs]
theorem yOy (v:Int) (s:List UInt8) (h:s.length≤234):yAx v s=yBB v s++(yEo (IntKind.u64.wrap (yDh (yBB v s))) 4++yEo v 8):=by
 have e1:yIf v=yEo v 8++zs 248:=by
  have:=yJH [] (zs 256) (yEo v 8)
  rw [yAD,yJI] at this
  exact this
 have e2:yF9 v s=yEo v 8++(yEo (IntKind.u64.wrap s.length) 2++zs 246):=by
  unfold yF9
  rw [e1]
  have:=yJH (yEo v 8) (zs 248) (yEo (IntKind.u64.wrap s.length) 2)
  rw [yAD,yAD,yJI] at this
  exact this
 have e3:yDi v s=yBB v s++zs 12:=by
  unfold yDi
  rw [e2,← zLd]
  have:=yJH (yEo v 8++yEo (IntKind.u64.wrap s.length) 2) (zs 246) s
  rw [zLa,yAD,yAD,yJI] at this
  rw [this]
  unfold yBB
  simp only [zLd]
  congr 3
  have:zs (246-s.length)=zs (234-s.length)++zs 12:=by
   unfold zs;rw [List.replicate_append_replicate];congr 1;omega
  rw [this]
 have hl:=yFz v s h
 have e3t:(yDi v s).take 244=yBB v s:=by rw [e3,List.take_left' hl]
 have e4:yGV v s=yBB v s++(yEo (IntKind.u64.wrap (yDh (yBB v s))) 4++zs 8):=by
  unfold yGV
  rw [e3t,e3]
  have:=yJH (yBB v s) (zs 12) (yEo (IntKind.u64.wrap (yDh (yBB v s))) 4)
  rw [hl,yAD,yJI] at this
  exact this
 unfold yAx
 rw [e4,← zLd]
 have:=yJH (yBB v s++yEo (IntKind.u64.wrap (yDh (yBB v s))) 4) (zs 8) (yEo v 8)
 rw [zLa,hl,yAD,yAD,yJI] at this
 rw [this]
 simp [zs]
theorem yM5 (l:List UInt8):yCt l 2=(((l.getD 0 0).toNat+256*(l.getD 1 0).toNat:Nat):Int):=by
 have h0:=zLy (l.getD 0 0)
 obtain ⟨a,ha⟩:∃ a,a=l.getD 0 0:=⟨_,rfl⟩
 obtain ⟨b,hb⟩:∃ b,b=l.getD 1 0:=⟨_,rfl⟩
 rw [← ha] at h0
 have h1:=yEO 0 0 a zO zO
 have h2:=yEO (0+a.toNat*2 ^ (8*0)) 1 b zO (by show 0+a.toNat*1<256;omega)
 show yDN (yDN 0 0 (l.getD 0 0)) 1 (l.getD 1 0)=_
 rw [← ha,← hb]
 rw [show (0:Int)=((0:Nat):Int) from rfl,h1,h2]
 show ((0+a.toNat*1+b.toNat*256:Nat):Int)=_
 omega
theorem yTD (raw:List UInt8):yC6 raw=(raw.getD 8 0).toNat+256*(raw.getD 9 0).toNat:=by
 unfold yC6
 rw [yM5,yDP,yDP,zLe]
theorem yKC (v i:Nat) (hi:i<8):yCs (v:Int) i=UInt8.ofNat (v / 256 ^ i % 256):=by
 apply UInt8.toNat_inj.1
 rw [yCo v i hi,UInt8.toNat_ofNat',show (256:Nat) ^ i=2 ^ (8*i) by rw [show (256:Nat)=2 ^ 8 from rfl,← Nat.pow_mul]]
 omega
section
variable {P:Program} {W:World} {n:Nat} {k:KK} {E:Env} {H R:List SP} {x y z:Operand} {t u:TypeId} {kd:IntKind}
theorem yID {i j r:Int} (hx:Env.ev E x=some (.int kd i)) (hy:Env.ev E y=some (.int kd j)) (h:bits .xor kd i j=r):Ev P W n E H (.binOp .xor t x y u) (.int kd r):=by subst h;exact yWk hx hy
theorem yHj {i j r:Int} (hx:Env.ev E x=some (.int kd i)) (hy:Env.ev E y=some (.int kd j)) (hb:0≤i∧0<j) (h:i % j=r):Ev P W n E H (.binOp .rem t x y u) (.int kd r):=by subst h;exact yE6 hx hy hb
theorem yLN {i j r:Int} (hx:Env.ev E x=some (.int kd i)) (hy:Env.ev E y=some (.int kd j)) (hj:j≠0) (h:kd.wrap (i.tdiv j)=r):Ev P W n E H (.binOp .quo t x y u) (.int kd r):=by subst h;exact yRv hx hy hj
theorem yPz {i j r:Int} (hx:Env.ev E x=some (.int kd i)) (hy:Env.ev E y=some (.int kd j)) (h:kd.wrap (i*j)=r):Ev P W n E H (.binOp .mul t x y u) (.int kd r):=by subst h;exact yWa hx hy
theorem yVL {i j r:Int} (hx:Env.ev E x=some (.int kd i)) (hy:Env.ev E y=some (.int kd j)) (h:kd.wrap (i+j)=r):Ev P W n E H (.binOp .add t x y u) (.int kd r):=by subst h;exact yOM hx hy
theorem KJ.row_shape3 {v:Value} {e size m:Nat} {xs:List Value} (hsel:Sel (yAP v e size m xs) H R) (hm:0<m) (h:∀ g c,v=.slice (some ⟨g,0,none⟩) m c→KJ W n k E H):KJ W n k E H:=
 ⟨fun a w p s=>by
  rcases (s.left.row hsel).2 with ⟨_,q⟩|⟨g,c,_,q,_⟩
  ·omega
  ·exact (h g c q).go a w p s⟩
theorem yYi {e size:Nat} {H R:List SP}:∀ g,yAA (H++R) g→yAA (H++[yAP (.slice none 0 0) e size 0 []]++R) g:=by
 intro g q
 have q2:yAA (yAP (.slice none 0 0) e size 0 []::(H++R)) g:=⟨fun _=>none,g,(fun _ _ q=>by cases q),(fun _ _ q=>by cases q),.rfl,⟨by simp,.inl ⟨rfl,rfl⟩⟩,q⟩
 refine yFG ?_ g q2
 have:(H++[yAP (.slice none 0 0) e size 0 []]++R)=H++yAP (.slice none 0 0) e size 0 []::R:=zW
 rw [this]
 exact List.perm_middle.symm
end
theorem yVM (a:Nat) (h:a<2 ^ 32):IntKind.u32.wrap (((a:Nat):Int).tdiv 2)=((a / 2:Nat):Int):=by
 have:((a:Nat):Int).tdiv 2=((a / 2:Nat):Int):=by rw [Int.tdiv_eq_ediv_of_nonneg zO];rfl
 rw [this]
 exact yFy _ zO
theorem yVN (a:Nat) (h:a<2 ^ 64):IntKind.u64.wrap (((a:Nat):Int).tdiv 256)=((a / 256:Nat):Int):=by
 have:((a:Nat):Int).tdiv 256=((a / 256:Nat):Int):=by rw [Int.tdiv_eq_ediv_of_nonneg zO];rfl
 rw [this]
 exact yBa _ zO
theorem yVO (z:Nat):IntKind.u8.wrap (z:Int)=((z % 256:Nat):Int):=by
 have:IntKind.u8.wrap (z:Int)=(z:Int) % 256:=rfl
 rw [this];omega
section
variable {W:World}
theorem yQO (s:Nat) (hs:s<2 ^ 32) (l:List UInt8) (hl:l.length<4611686018427387904):CtU prog W 162 [.int .u32 (s:Nat),strV l] [] (.int .u32 ((yQN (yTB (yQN s) l):Nat):Int)) []:=by
 obtain ⟨A,hA⟩:∃ A:Nat→Nat,A=fun i=>yTB (yQN s) (l.take i):=⟨_,rfl⟩
 have hA0:yQN s=A 0:=by rw [hA];simp [yTB]
 have hAl:yTB (yQN s) l=A l.length:=by rw [hA];simp
 have hAn:∀ i c,l[i]? = some c→A (i+1)=yQM (A i) c:=fun i c h=>by rw [hA];exact yTC _ l i c h
 have hAb:∀ i,A i<2 ^ 32:=fun i=>by rw [hA];exact (yJE _ _ (yLL s hs)).2
 have hx0:bits .xor .u32 (s:Nat) 4294967295=((A 0:Nat):Int):=by rw [← hA0];exact yOx s 4294967295 hs zO
 have hxl:bits .xor .u32 ((A l.length:Nat):Int) 4294967295=((yQN (A l.length):Nat):Int):=yOx _ 4294967295 (hAb _) zO
 rw [hAl]
 clear hA hAl hA0
 refine Ct.enter func162 rfl ntmps162 zW (fun R=>?_)
 repeat' (first|refine yMd ?_;refine yAa (yID rfl rfl hx0) ?_|refine xst ?_|refine xsa ?_;intro _|refine xsb ?_ ?_<;>intro _<;>try omega|refine xsc ?_|fail)
 refine yAz (fun i:{k:Nat//k≤l.length}=>[(1,strV l),(5,.int .u32 ((A i.1:Nat):Int)),(6,.int .i64 (i.1:Nat))]) (fun _=>R) (fun i=>l.length-i.1) ⟨0,zO⟩ xB (fun _ q=>q) (fun ⟨i,hi⟩=>?_)
 dsimp only
 by_cases hlt:i<l.length
 ·obtain ⟨c,hc⟩:∃ c,l[i]? = some c:=⟨_,zLb hlt⟩
  have hcb:=zLy c
  have hnx:=hAn i c hc
  have hc':l[(i:Int).toNat]? = some c:=by rw [zLe];exact hc
  obtain ⟨r,hr⟩:∃ r,r=A i ^^^ c.toNat:=⟨_,rfl⟩
  have hrb:r<2 ^ 32:=by rw [hr];exact Nat.xor_lt_two_pow (hAb i) zO
  have hcv:IntKind.u32.wrap ((c.toNat:Nat):Int)=((c.toNat:Nat):Int):=yFy _ zO
  have hxc:bits .xor .u32 ((A i:Nat):Int) ((c.toNat:Nat):Int)=((yDY 0 r:Nat):Int):=by rw [yOx _ _ (hAb i) zO,hr];rfl
  have hnx:A (i+1)=yDY 8 r:=by rw [hnx,hr];rfl
  clear hr
  repeat' (first|refine yEf ?_;refine yAa (yAg rfl hcv) ?_|refine yOV ?_;refine yAa (yAk rfl rfl zO hc') ?_|refine yMd ?_;refine yAa (yID rfl rfl hxc) ?_|refine xst ?_|refine xsa ?_;intro _|refine xsb ?_ ?_<;>intro _<;>try omega|refine xsc ?_|fail)
  refine yAz (fun k:{k:Nat//k≤8}=>[(1,strV l),(5,.int .u32 ((yDY k.1 r:Nat):Int)),(6,.int .i64 (i:Nat)),(7,.int .i64 (k.1:Nat))]) (fun _=>R) (fun k=>8-k.1) ⟨0,zO⟩ xB (fun _ q=>q) (fun ⟨k,hk⟩=>?_)
  dsimp only
  by_cases hk8:k<8
  ·have hab:=yIC k r hrb
   have hst:yDY (k+1) r=yL1 (yDY k r):=rfl
   obtain ⟨a,ha⟩:∃ a,a=yDY k r:=⟨_,rfl⟩
   rw [← ha] at hab hst ⊢
   have hrem:((a:Nat):Int) % 2=((a % 2:Nat):Int):=zO
   have hquo:=yVM a hab
   by_cases hp:a % 2=1
   ·have hq:((a % 2:Nat):Int)=1:=by omega
    have hxp:bits .xor .u32 ((a / 2:Nat):Int) 2197175160=((yDY (k+1) r:Nat):Int):=by rw [hst,yL1,if_pos hp];exact yOx (a / 2) 2197175160 zO zO
    repeat' (first|refine yWf ?_;refine yAa (yAd (r:=((k+1:Nat):Int)) rfl rfl zO zO) ?_|refine yDK ?_;refine yAa (yLN rfl rfl zO hquo) ?_|refine yYY ?_;refine yAa (yHj rfl rfl zO hrem) ?_|refine yMd ?_;refine yAa (yID rfl rfl hxp) ?_|refine yDe ?_;refine yAa (yDf rfl rfl hq) ?_|refine xst ?_|refine xsa ?_;intro _|refine xsb ?_ ?_<;>intro _<;>try omega|refine xsc ?_|fail)
    all_goals refine yAp ⟨k+1,zO⟩ (by show 8-(k+1)<8-k;omega) xB (fun _ q=>q)
   ·have hq:((a % 2:Nat):Int)≠1:=by omega
    have hsp:yDY (k+1) r=a / 2:=by rw [hst,yL1,if_neg hp,Nat.xor_zero]
    repeat' (first|refine yWf ?_;refine yAa (yAd (r:=((k+1:Nat):Int)) rfl rfl zO zO) ?_|refine yDK ?_;refine yAa (yLN rfl rfl zO hquo) ?_|refine yYY ?_;refine yAa (yHj rfl rfl zO hrem) ?_|refine yDe ?_;refine yAa (yBl rfl rfl hq) ?_|refine xst ?_|refine xsa ?_;intro _|refine xsb ?_ ?_<;>intro _<;>try omega|refine xsc ?_|fail)
    all_goals refine yAp ⟨k+1,zO⟩ (by show 8-(k+1)<8-k;omega) ?_ (fun _ q=>q)
    all_goals rw [hsp]
    all_goals exact xB
  ·have hk8:k=8:=by omega
   subst hk8
   rw [← hnx]
   repeat' (first|refine yWf ?_;refine yAa (yAd (r:=((i+1:Nat):Int)) rfl rfl zO zO) ?_|refine xst ?_|refine xsa ?_;intro _|refine xsb ?_ ?_<;>intro _<;>try omega|refine xsc ?_|fail)
   all_goals refine yAp ⟨i+1,zO⟩ (by show l.length-(i+1)<l.length-i;omega) xB (fun _ q=>q)
 ·have hkl:i=l.length:=by omega
  subst hkl
  repeat' (first|refine yMd ?_;refine yAa (yID rfl rfl hxl) ?_|refine xst ?_|refine xsa ?_;intro _|refine xsb ?_ ?_<;>intro _<;>try omega|refine xsc ?_|exact xdn ()|fail)
theorem yYj (l:List UInt8) (hl:l.length<4611686018427387904):CtU prog W 128 [strV l] [] (.int .u32 (yDh l)) []:=by
 have c1:CtU prog W 162 [.int .u32 0,strV l] [] (.int .u32 (yDh l)) []:=(yQO 0 zO l hl).val fun _=>by rw [yJG]
 refine Ct.enter func128 rfl ntmps128 zW (fun R=>?_)
 repeat' (first|refine yAb ?_;refine xca c1 fun _=>?_|refine xst ?_|refine xsa ?_;intro _|refine xsb ?_ ?_<;>intro _<;>try omega|refine xsc ?_|exact xdn ()|fail)
theorem yLO (x:Nat) (hx:x<2 ^ 64) (n:Nat) (hn0:0<n) (hn:n≤8):CtU prog W 127 [.int .u64 (x:Nat),.int .i64 (n:Nat)] [] (strV (yEo (x:Nat) n)) []:=by
 refine Ct.enter func127 rfl ntmps127 zW (fun R=>?_)
 repeat' (first|refine xst ?_|refine xsa ?_;intro _|refine xsb ?_ ?_<;>intro _<;>try omega|refine xsc ?_|fail)
 refine yAz (fun i:{y:Nat × Value//y.1≤n}=>[(0,.int .u64 ((x / 256 ^ i.1.1:Nat):Int)),(1,.int .i64 (n:Nat)),(5,i.1.2),(6,.int .i64 (i.1.1:Nat))]) (fun i=>[]++[yAP i.1.2 5 1 i.1.1 (bvs (yEo (x:Nat) i.1.1))]++R) (fun i=>n-i.1.1) ⟨(0,.slice none 0 0),zO⟩ ?_ (fun g q=>yYi (H:=[]) g q) (fun ⟨⟨k,v⟩,hk⟩=>?_)
 ·have e:((x / 256 ^ 0:Nat):Int)=(x:Nat):=by simp
  dsimp only
  rw [e]
  exact xB
 dsimp only at hk ⊢
 by_cases hlt:k<n
 ·have hxk:x / 256 ^ k<2 ^ 64:=Nat.lt_of_le_of_lt (Nat.div_le_self _ _) hx
  have hcv:IntKind.u8.wrap ((x / 256 ^ k:Nat):Int)=(((yCs (x:Nat) k).toNat:Nat):Int):=by
   rw [yVO,yKC _ _ zO,UInt8.toNat_ofNat']
   congr 1
   omega
  have hq:IntKind.u64.wrap (((x / 256 ^ k:Nat):Int).tdiv 256)=((x / 256 ^ (k+1):Nat):Int):=by
   rw [yVN _ hxk,Nat.div_div_eq_div_mul,Nat.pow_succ]
  have hnx:bvs (yEo (x:Nat) k)++[.int .u8 ((yCs (x:Nat) k).toNat:Int)]=bvs (yEo (x:Nat) (k+1)):=by rw [yMv];simp [bvs,bv]
  repeat' (first|refine yAH ?_;refine yCf (a2:=0) rfl rfl (by rfl) zO xS (Src.cells (i:=1) xS xC) (by rfl) zO xO zO zO rfl rfl (fun gw cw=>?_)|refine yAF ?_;refine yAI rfl xF (by rfl) zO rfl (fun _=>?_)|refine yEf ?_;refine yAa (yAg rfl hcv) ?_|refine yWf ?_;refine yAa (yAd (r:=((k+1:Nat):Int)) rfl rfl zO zO) ?_|refine yDK ?_;refine yAa (yLN rfl rfl zO hq) ?_|refine xst ?_|refine xsa ?_;intro _|refine xsb ?_ ?_<;>intro _<;>try omega|refine xsc ?_|fail)
  all_goals rw [hnx]
  all_goals refine yAp ⟨(k+1,_),zO⟩ (by show n-(k+1)<n-k;omega) xB (xN)
 ·have hkn:k=n:=by omega
  subst hkn
  refine KJ.row_shape3 (v:=v) xS hn0 (fun g c e=>?_)
  subst e
  repeat' (first|refine yEf ?_;refine yAa (yEM rfl xS) ?_|refine xst ?_|refine xsa ?_;intro _|refine xsb ?_ ?_<;>intro _<;>try omega|refine xsc ?_|exact xdn ()|fail)
theorem yJJ (l:List UInt8) (hl:l.length=8):CtU prog W 194 [strV l] [] (.int .u64 (yCt l 8)) []:=by
 obtain ⟨V,hV,hg,hb⟩:=yEt l 8 zO
 rw [hg]
 refine Ct.enter func194 rfl ntmps194 zW (fun R=>?_)
 repeat' (first|refine xst ?_|refine xsa ?_;intro _|refine xsb ?_ ?_<;>intro _<;>try omega|refine xsc ?_|fail)
 have h0:V / 256 ^ 8=0:=Nat.div_eq_of_lt hV
 refine yAz (fun j:{j:Nat//j≤8}=>[(0,strV l),(3,.int .u64 ((V / 256 ^ j.1:Nat):Int)),(4,.int .i64 ((j.1:Int)-1))]) (fun _=>R) (fun j=>j.1) ⟨8,zO⟩ ?_ (fun _ q=>q) (fun ⟨j,hj⟩=>?_)
 ·dsimp only
  rw [h0]
  exact xB
 dsimp only
 cases j with
 |zero=>
  have hq:decide ((0:Int)≤((0:Nat):Int)-1)=false:=zX
  have h1:V / 256 ^ 0=V:=zW
  rw [h1]
  repeat' (first|refine yIR ?_;refine yAa (yAm rfl rfl hq) ?_|refine xst ?_|refine xsa ?_;intro _|refine xsb ?_ ?_<;>intro _<;>try omega|refine xsc ?_|exact xdn ()|fail)
 |succ j=>
  have hq:decide ((0:Int)≤((j+1:Nat):Int)-1)=true:=zY zO
  have hj1:(((j+1:Nat):Int)-1).toNat=j:=zO
  obtain ⟨c,hc⟩:∃ c,l[j]? = some c:=⟨_,zLb zO⟩
  have hc':l[(((j+1:Nat):Int)-1).toNat]? = some c:=by rw [hj1];exact hc
  have hcb:=zLy c
  have hbj:=hb j zO
  rw [List.getD,hc] at hbj
  have hbj:c=yCs (V:Int) j:=hbj
  have hcv:c.toNat=V / 256 ^ j % 256:=by
   rw [hbj,yKC _ _ zO,UInt8.toNat_ofNat']
   omega
  have hd:V / 256 ^ (j+1)=V / 256 ^ j / 256:=by rw [Nat.div_div_eq_div_mul,Nat.pow_succ]
  have hVj:V / 256 ^ j<2 ^ 64:=Nat.lt_of_le_of_lt (Nat.div_le_self _ _) hV
  obtain ⟨a,ha⟩:∃ a,a=V / 256 ^ j:=⟨_,rfl⟩
  rw [← ha] at hcv hd hVj
  rw [hd]
  have hm:IntKind.u64.wrap (((a / 256:Nat):Int)*256)=((a / 256*256:Nat):Int):=by
   rw [show (((a / 256:Nat):Int)*256)=((a / 256*256:Nat):Int) by simp]
   exact yBa _ zO
  have hw:IntKind.u64.wrap ((c.toNat:Nat):Int)=((c.toNat:Nat):Int):=yBa _ zO
  have ha2:IntKind.u64.wrap (((a / 256*256:Nat):Int)+((c.toNat:Nat):Int))=((a:Nat):Int):=by
   rw [show (((a / 256*256:Nat):Int)+((c.toNat:Nat):Int))=((a:Nat):Int) by omega]
   exact yBa _ hVj
  repeat' (first|refine yEf ?_;refine yAa (yAg rfl hw) ?_|refine yOV ?_;refine yAa (yAk rfl rfl zO hc') ?_|refine yWf ?_;refine yAa (yVL rfl rfl ha2) ?_|refine yYX ?_;refine yAa (yBG (r:=((j:Nat):Int)-1) rfl rfl zO zO) ?_|refine yRP ?_;refine yAa (yPz rfl rfl hm) ?_|refine yIR ?_;refine yAa (yAm rfl rfl hq) ?_|refine xst ?_|refine xsa ?_;intro _|refine xsb ?_ ?_<;>intro _<;>try omega|refine xsc ?_|fail)
  all_goals refine yAp ⟨j,zO⟩ (by show j<j+1;omega) ?_ (fun _ q=>q)
  all_goals dsimp only
  all_goals rw [← ha]
  all_goals exact xB
end
section
variable {P:Program} {W:World} {n d m:Nat} {k:KK} {E:Env} {H:List SP} {x y z:Operand} {t e:TypeId}
theorem yLP {C:Int} {l:List UInt8} (hx:Env.ev E x=some (.int .i64 C)) (hy:Env.ev E y=some (.int .i64 C)) [hu:UIs P t (.slice e)] [hs:SzIs P e 1] [hb:ByIs P e 1] [hz:ZcIs P e [.int .u8 0]] (_:t=t) (hC:C=(m:Int)) (hm:m≤140737488355328) (hl:List.replicate m 0=l) (hn:Nat.blt d n=true)
 (h:∀ g,KJ W n k ((d,.slice (some ⟨g,0,none⟩) m m)::E) (yAi g (bvs l) e::H)):KJ W n (.oper P (.makeSlice t x y) (some d) k) E H:=by
 subst hl;exact yH9 hx hy hC hm hn h
theorem yBK {l r:List UInt8} {i j:Int} {ki kj:IntKind} (hx:Env.ev E x=some (strV l)) (hy:Env.ev E y=some (.int ki i)) (hz:Env.ev E z=some (.int kj j)) [hu:UIs P t .string] (hb:0≤i∧i≤j∧j≤l.length) (h:(l.take j.toNat).drop i.toNat=r):Ev P W n E H (.slice t x (some y) (some z) none) (strV r):=by
 subst h;exact yDH hx hy hz hb
end
section
variable {W:World}
theorem yQP (pl:List UInt8):CtU prog W 80 [.int .u64 0,strV pl] [] (.tuple #[strV [],.int .i64 6]) []:=by
 refine Ct.enter func80 rfl ntmps80 zW (fun R=>?_)
 repeat' (first|refine yDe ?_;refine yAa (yDf rfl rfl rfl) ?_|refine xst ?_|refine xsa ?_;intro _|refine xsb ?_ ?_<;>intro _<;>try omega|refine xsc ?_|refine xdr 5 yWL ?_|refine xsd ?_ ?_|exact Rech.nil|exact xdn ()|fail)
theorem yLQ (stamp:Nat) (h0:stamp≠0) (hst:stamp<2 ^ 64) (pl:List UInt8) (h:pl.length≤234):CtU prog W 80 [.int .u64 (stamp:Nat),strV pl] [] (.tuple #[strV (yAx (stamp:Nat) pl),.int .i64 0]) []:=by
 have q1:((stamp:Nat):Int)≠0:=zO
 have q2:decide ((234:Int)<(pl.length:Nat))=false:=zZ zO
 have hw:IntKind.u64.wrap (pl.length:Nat)=((pl.length:Nat):Int):=yBa _ zO
 obtain ⟨L8,hL8⟩:∃ L,L=yEo (stamp:Nat) 8:=⟨_,rfl⟩
 obtain ⟨L2,hL2⟩:∃ L,L=yEo ((pl.length:Nat):Int) 2:=⟨_,rfl⟩
 obtain ⟨Z,hZ⟩:∃ Z:List UInt8,Z=List.replicate (234-pl.length) 0:=⟨_,rfl⟩
 have l8:L8.length=8:=by rw [hL8,yAD]
 have l2:L2.length=2:=by rw [hL2,yAD]
 have lz:Z.length=234-pl.length:=by rw [hZ,zLB]
 have c8:CtU prog W 127 [.int .u64 (stamp:Nat),.int .i64 8] [] (strV L8) []:=by rw [hL8];exact yLO stamp hst 8 zO zO
 have c2:CtU prog W 127 [.int .u64 (pl.length:Nat),.int .i64 2] [] (strV L2) []:=by rw [hL2];exact yLO pl.length zO 2 zO zO
 have hhead:L8++L2++pl++Z=yBB (stamp:Nat) pl:=by
  unfold yBB
  rw [hL8,hL2,hZ,hw]
  simp only [zLd]
  rfl
 have hsl:=yFz ((stamp:Nat):Int) pl h
 have hcb:=yLM (yBB (stamp:Nat) pl)
 obtain ⟨C,hC⟩:∃ C:Nat,yDh (yBB (stamp:Nat) pl)=(C:Nat):=⟨(yDh (yBB (stamp:Nat) pl)).toNat,zO⟩
 have hcC:C<4294967296:=zO
 have cs:CtU prog W 128 [strV (L8++L2++pl++Z)] [] (.int .u32 (C:Nat)) []:=by
  rw [hhead,← hC];exact yYj _ zO
 have hwc:IntKind.u64.wrap (C:Nat)=((C:Nat):Int):=yBa _ zO
 obtain ⟨L4,hL4⟩:∃ L,L=yEo (C:Nat) 4:=⟨_,rfl⟩
 have l4:L4.length=4:=by rw [hL4,yAD]
 have c4:CtU prog W 127 [.int .u64 (C:Nat),.int .i64 4] [] (strV L4) []:=by rw [hL4];exact yLO C zO 4 zO zO
 have hall:L8++L2++pl++Z++L4++L8=yAx (stamp:Nat) pl:=by
  rw [yOy _ _ h,hhead,hC,hwc,hL4,hL8]
  simp only [zLd]
 rw [← hall]
 have hZ':List.replicate (234-pl.length) (0:UInt8)=Z:=hZ.symm
 clear hall hhead hsl hcb hC hL4 hL8 hL2
 refine Ct.enter func80 rfl ntmps80 zW (fun R=>?_)
 repeat' (first|(refine yAb ?_;first|refine xca c4 fun _=>?_|refine xca cs fun _=>?_|refine xca c2 fun _=>?_|refine xca c8 fun _=>?_)|refine yHy ?_;refine yLP (m:=234-pl.length) rfl rfl rfl zO zO hZ' rfl (fun g=>?_)|(refine yEf ?_;first|refine yAa (yC4 rfl xS lz) ?_|refine yAa (yAg rfl hwc) ?_|refine yAa (yAg rfl hw) ?_)|(refine yWf ?_;refine yAa (yE7 rfl rfl (by first|omega|(simp only [zLa];omega))) ?_)|refine yDe ?_;refine yAa (yBl rfl rfl q1) ?_|refine yF5 ?_;refine yAa (yAe rfl rfl q2) ?_|refine xst ?_|refine xsa ?_;intro _|refine xsb ?_ ?_<;>intro _<;>try omega|refine xsc ?_|refine xdr 5 yWL ?_|refine xsd ?_ ?_|exact Rech.nil|exact xdn ()|fail)
theorem yTE (stamp:Int) (raw:List UInt8) (h:raw.length≠256):CtU prog W 151 [.int .u64 stamp,strV raw] [] (.tuple #[strV [],.bool false]) []:=by
 have q1:((raw.length:Nat):Int)≠256:=zO
 refine Ct.enter func151 rfl ntmps151 zW (fun R=>?_)
 repeat' (first|refine yD3 ?_;refine yAa (yA0 rfl rfl q1) ?_|refine xst ?_|refine xsa ?_;intro _|refine xsb ?_ ?_<;>intro _<;>try omega|refine xsc ?_|refine xdr 3 yM3 ?_|refine xsd ?_ ?_|exact Rech.nil|exact xdn ()|fail)
theorem yLR (stamp:Nat) (hst:stamp<2 ^ 64) (raw:List UInt8):CtU prog W 151 [.int .u64 (stamp:Nat),strV raw] [] (.tuple #[strV ((yBU (stamp:Nat) raw).getD []),.bool (yBU (stamp:Nat) raw).isSome]) []:=by
 by_cases hl:raw.length≠256
 ·have e:yBU (stamp:Nat) raw=none:=by unfold yBU;rw [if_pos hl];split <;> rfl
  rw [e];exact yTE _ raw hl
 have hl:raw.length=256:=zO
 have q1:((raw.length:Nat):Int)=256:=zO
 obtain ⟨c8,h8⟩:∃ c,raw[8]? = some c:=⟨_,zLb zO⟩
 obtain ⟨c9,h9⟩:∃ c,raw[9]? = some c:=⟨_,zLb zO⟩
 have hN:yC6 raw=c8.toNat+256*c9.toNat:=by rw [yTD];simp [List.getD,h8,h9]
 have b8:=zLy c8
 have b9:=zLy c9
 have hm:(256:Int)*((c9.toNat:Nat):Int)=((256*c9.toNat:Nat):Int):=zO
 have ha:((c8.toNat:Nat):Int)+((256*c9.toNat:Nat):Int)=((yC6 raw:Nat):Int):=by rw [hN];omega
 have i8:raw[(8:Int).toNat]? = some c8:=h8
 have i9:raw[(9:Int).toNat]? = some c9:=h9
 have hn:yC6 raw<65536+256:=zO
 obtain ⟨n,hnn⟩:∃ n,n=yC6 raw:=⟨_,rfl⟩
 by_cases hbig:234<yC6 raw
 ·have q2:decide ((234:Int)<((n:Nat):Int))=true:=zY zO
  have e:yBU (stamp:Nat) raw=none:=by unfold yBU;rw [if_neg (show ¬ raw.length≠256 by omega),if_pos hbig];split <;> rfl
  rw [e]
  rw [← hnn] at ha hn
  refine Ct.enter func151 rfl ntmps151 zW (fun R=>?_)
  repeat' (first|(refine yOV ?_;first|refine yAa (yAk rfl rfl zO i9) ?_|refine yAa (yAk rfl rfl zO i8) ?_)|refine yWf ?_;refine yAa (yAd rfl rfl ha zO) ?_|refine yRP ?_;refine yAa (yAG rfl rfl hm zO) ?_|refine yD3 ?_;refine yAa (yAv rfl rfl q1) ?_|refine yF5 ?_;refine yAa (yAe rfl rfl q2) ?_|refine xst ?_|refine xsa ?_;intro _|refine xsb ?_ ?_<;>intro _<;>try omega|refine xsc ?_|refine xdr 3 yM3 ?_|refine xsd ?_ ?_|exact Rech.nil|exact xdn ()|fail)
 ·have q2:decide ((234:Int)<((n:Nat):Int))=false:=zZ zO
  have hP:(raw.take (((10+n:Nat):Int)).toNat).drop (10:Int).toNat=yDV raw:=by rw [zLe,hnn];rfl
  have hPl:(yDV raw).length≤234:=by rw [yD7 raw hl zO];omega
  rw [← hnn] at ha hn
  obtain ⟨pl,hpl⟩:∃ pl,pl=yDV raw:=⟨_,rfl⟩
  have e:yBU (stamp:Nat) raw=if ((stamp:Nat):Int)=0 then none else if yAx (stamp:Nat) pl=raw then some pl else none:=by
   unfold yBU
   rw [if_neg (show ¬ raw.length≠256 by omega),if_neg hbig,hpl]
  rw [← hpl] at hP hPl
  rw [e]
  by_cases h0:stamp=0
  ·subst h0
   rw [if_pos zW]
   have c1:=yQP (W:=W) pl
   refine Ct.enter func151 rfl ntmps151 zW (fun R=>?_)
   repeat' (first|refine yAb ?_;refine xca c1 fun _=>?_|(refine yOV ?_;first|refine yAa (yAk rfl rfl zO i9) ?_|refine yAa (yAk rfl rfl zO i8) ?_)|refine yAQ ?_;refine yAa (yBK rfl rfl rfl zO hP) ?_|(refine yWf ?_;first|refine yAa (yAd (r:=((10+n:Nat):Int)) rfl rfl zO zO) ?_|refine yAa (yAd rfl rfl ha zO) ?_)|refine yRP ?_;refine yAa (yAG rfl rfl hm zO) ?_|(refine yD3 ?_;first|refine yAa (yA0 rfl rfl zX) ?_|refine yAa (yAv rfl rfl q1) ?_)|refine yF5 ?_;refine yAa (yAe rfl rfl q2) ?_|refine xst ?_|refine xsa ?_;intro _|refine xsb ?_ ?_<;>intro _<;>try omega|refine xsc ?_|refine xdr 3 yM3 ?_|refine xsd ?_ ?_|exact Rech.nil|exact xdn ()|fail)
  ·rw [if_neg zO]
   have c1:=yLQ (W:=W) stamp h0 hst pl hPl
   by_cases hs:yAx (stamp:Nat) pl=raw
   ·rw [if_pos hs]
    refine Ct.enter func151 rfl ntmps151 zW (fun R=>?_)
    repeat' (first|refine yAb ?_;refine xca c1 fun _=>?_|(refine yOV ?_;first|refine yAa (yAk rfl rfl zO i9) ?_|refine yAa (yAk rfl rfl zO i8) ?_)|refine yAQ ?_;refine yAa (yBK rfl rfl rfl zO hP) ?_|(refine yWf ?_;first|refine yAa (yAd (r:=((10+n:Nat):Int)) rfl rfl zO zO) ?_|refine yAa (yAd rfl rfl ha zO) ?_)|refine yRP ?_;refine yAa (yAG rfl rfl hm zO) ?_|(refine yD3 ?_;first|refine yAa (yEn rfl rfl hs) ?_|refine yAa (yAv rfl rfl (by rfl)) ?_|refine yAa (yAv rfl rfl q1) ?_)|refine yF5 ?_;refine yAa (yAe rfl rfl q2) ?_|refine xst ?_|refine xsa ?_;intro _|refine xsb ?_ ?_<;>intro _<;>try omega|refine xsc ?_|refine xdr 3 yM3 ?_|refine xsd ?_ ?_|exact Rech.nil|exact xdn ()|fail)
   ·rw [if_neg hs]
    refine Ct.enter func151 rfl ntmps151 zW (fun R=>?_)
    repeat' (first|refine yAb ?_;refine xca c1 fun _=>?_|(refine yOV ?_;first|refine yAa (yAk rfl rfl zO i9) ?_|refine yAa (yAk rfl rfl zO i8) ?_)|refine yAQ ?_;refine yAa (yBK rfl rfl rfl zO hP) ?_|(refine yWf ?_;first|refine yAa (yAd (r:=((10+n:Nat):Int)) rfl rfl zO zO) ?_|refine yAa (yAd rfl rfl ha zO) ?_)|refine yRP ?_;refine yAa (yAG rfl rfl hm zO) ?_|(refine yD3 ?_;first|refine yAa (yEq rfl rfl hs) ?_|refine yAa (yAv rfl rfl (by rfl)) ?_|refine yAa (yAv rfl rfl q1) ?_)|refine yF5 ?_;refine yAa (yAe rfl rfl q2) ?_|refine xst ?_|refine xsa ?_;intro _|refine xsb ?_ ?_<;>intro _<;>try omega|refine xsc ?_|refine xdr 3 yM3 ?_|refine xsd ?_ ?_|exact Rech.nil|exact xdn ()|fail)
theorem yVP (raw:List UInt8):CtU prog W 160 [strV raw] [] (.tuple #[.int .u64 (yUR raw),.int .u64 (yUS raw),.int .i64 (yQe raw:Nat)]) []:=by
 unfold yUR yUS yQe
 by_cases hl:raw.length=256
 ·rw [if_pos hl,if_pos hl,if_pos hl]
  have q1:((raw.length:Nat):Int)=256:=zO
  have hH:yCt (raw.take 8) 8=yCt raw 8:=by
   obtain ⟨v,hv,hg,hb⟩:=yEt raw 8 zO
   rw [hg,yHF _ v 8 zO (fun i hi=>by rw [← hb i hi];simp [List.getD,hi]),Nat.mod_eq_of_lt hv]
  have c1:CtU prog W 194 [strV (raw.take (8:Int).toNat)] [] (.int .u64 (yCt raw 8)) []:=by rw [← hH];exact yJJ (raw.take 8) (by simp;omega)
  have c2:CtU prog W 194 [strV (raw.drop (248:Int).toNat)] [] (.int .u64 (yCt (raw.drop 248) 8)) []:=yJJ (raw.drop 248) (by simp;omega)
  refine Ct.enter func160 rfl ntmps160 zW (fun R=>?_)
  repeat' (first|(refine yAb ?_;first|refine xca c2 fun _=>?_|refine xca c1 fun _=>?_)|(refine yAQ ?_;first|refine yAa (yBS rfl rfl zO) ?_|refine yAa (yGA rfl rfl zO) ?_)|refine yD3 ?_;refine yAa (yAv rfl rfl q1) ?_|refine xst ?_|refine xsa ?_;intro _|refine xsb ?_ ?_<;>intro _<;>try omega|refine xsc ?_|refine xdr 3 yWM ?_|refine xsd ?_ ?_|exact Rech.nil|exact xdn ()|fail)
 ·rw [if_neg hl,if_neg hl,if_neg hl]
  have q1:((raw.length:Nat):Int)≠256:=zO
  refine Ct.enter func160 rfl ntmps160 zW (fun R=>?_)
  repeat' (first|refine yD3 ?_;refine yAa (yA0 rfl rfl q1) ?_|refine xst ?_|refine xsa ?_;intro _|refine xsb ?_ ?_<;>intro _<;>try omega|refine xsc ?_|refine xdr 3 yWM ?_|refine xsd ?_ ?_|exact Rech.nil|exact xdn ()|fail)
end
section
variable {W:World}
theorem yVQ (raw:List UInt8) (k:Int):CtU prog W 124 [strV raw,.int .i64 k] [] (.tuple #[strV (yCu raw k),.int .i64 (yAM raw k)]) []:=by
 have c1:=yVP (W:=W) raw
 by_cases hl:raw.length=256
 rotate_left
 ·have e:yCA raw k=none:=by unfold yCA;rw [if_pos hl]
  have e1:yCu raw k=[]:=by unfold yCu;rw [e];rfl
  have e2:yAM raw k=0:=by unfold yAM;rw [e];rfl
  have e3:yQe raw=7:=by unfold yQe;rw [if_neg hl]
  rw [e3] at c1
  rw [e1,e2]
  refine Ct.enter func124 rfl ntmps124 zW (fun R=>?_)
  repeat' (first|refine yAb ?_;refine xca c1 fun _=>?_|refine yD3 ?_;refine yAa (yA0 rfl rfl zX) ?_|refine xst ?_|refine xsa ?_;intro _|refine xsb ?_ ?_<;>intro _<;>try omega|refine xsc ?_|exact xdn ()|fail)
 obtain ⟨V,hV,hg,_⟩:=yEt raw 8 zO
 obtain ⟨T,hT,hgT,_⟩:=yEt (raw.drop 248) 8 zO
 have e3:yQe raw=0:=by unfold yQe;rw [if_pos hl]
 have e4:yUR raw=(V:Nat):=by unfold yUR;rw [if_pos hl,hg]
 have e5:yUS raw=(T:Nat):=by unfold yUS;rw [if_pos hl,hgT]
 rw [e3,e4,e5] at c1
 have hO:yCA raw k=if ((V:Nat):Int)≠(T:Nat) then none else if ((V:Nat):Int)<1 then none else if 1099511627776<((V:Nat):Int) then none else if ((V:Nat):Int) % 2≠k then none else (yBU (V:Nat) raw).map fun v=>(((V:Nat):Int),v):=by
  unfold yCA
  rw [if_neg (show ¬ raw.length≠256 by omega),hg,hgT]
 have hnone:yCA raw k=none→yCu raw k=[]∧yAM raw k=0:=fun e=>by
  unfold yCu yAM;rw [e];exact ⟨rfl,rfl⟩
 clear e3 e4 e5 hg hgT hT
 by_cases h1:((V:Nat):Int)≠(T:Nat)
 ·rw [if_pos h1] at hO
  rw [(hnone hO).1,(hnone hO).2]
  refine Ct.enter func124 rfl ntmps124 zW (fun R=>?_)
  repeat' (first|refine yAb ?_;refine xca c1 fun _=>?_|(refine yD3 ?_;first|refine yAa (yAv rfl rfl (by rfl)) ?_|refine yAa (yA0 rfl rfl h1) ?_)|refine xst ?_|refine xsa ?_;intro _|refine xsb ?_ ?_<;>intro _<;>try omega|refine xsc ?_|exact xdn ()|fail)
 have h1:((V:Nat):Int)=(T:Nat):=zO
 rw [if_neg zO] at hO
 by_cases h2:((V:Nat):Int)<1
 ·rw [if_pos h2] at hO
  rw [(hnone hO).1,(hnone hO).2]
  have q2:decide (((V:Nat):Int)<1)=true:=zY h2
  refine Ct.enter func124 rfl ntmps124 zW (fun R=>?_)
  repeat' (first|refine yAb ?_;refine xca c1 fun _=>?_|(refine yD3 ?_;first|refine yAa (yAv rfl rfl (by rfl)) ?_|refine yAa (yAv rfl rfl h1) ?_)|refine yFg ?_;refine yAa (yAc rfl rfl q2) ?_|refine xst ?_|refine xsa ?_;intro _|refine xsb ?_ ?_<;>intro _<;>try omega|refine xsc ?_|exact xdn ()|fail)
 rw [if_neg h2] at hO
 have q2:decide (((V:Nat):Int)<1)=false:=zZ h2
 by_cases h3:1099511627776<((V:Nat):Int)
 ·rw [if_pos h3] at hO
  rw [(hnone hO).1,(hnone hO).2]
  have q3:decide (1099511627776<((V:Nat):Int))=true:=zY h3
  refine Ct.enter func124 rfl ntmps124 zW (fun R=>?_)
  repeat' (first|refine yAb ?_;refine xca c1 fun _=>?_|(refine yD3 ?_;first|refine yAa (yAv rfl rfl (by rfl)) ?_|refine yAa (yAv rfl rfl h1) ?_)|refine yFg ?_;refine yAa (yAc rfl rfl q2) ?_|refine yF5 ?_;refine yAa (yAe rfl rfl q3) ?_|refine xst ?_|refine xsa ?_;intro _|refine xsb ?_ ?_<;>intro _<;>try omega|refine xsc ?_|exact xdn ()|fail)
 rw [if_neg h3] at hO
 have q3:decide (1099511627776<((V:Nat):Int))=false:=zZ h3
 have hr:((V:Nat):Int) % 2=((V % 2:Nat):Int):=zO
 have hcv:IntKind.i64.wrap ((V % 2:Nat):Int)=((V % 2:Nat):Int):=i64_in _ zO
 by_cases h4:((V:Nat):Int) % 2≠k
 ·rw [if_pos h4] at hO
  rw [(hnone hO).1,(hnone hO).2]
  rw [hr] at h4
  refine Ct.enter func124 rfl ntmps124 zW (fun R=>?_)
  repeat' (first|refine yAb ?_;refine xca c1 fun _=>?_|refine yEf ?_;refine yAa (yAg rfl hcv) ?_|refine yYY ?_;refine yAa (yHj rfl rfl zO hr) ?_|(refine yD3 ?_;first|refine yAa (yAv rfl rfl (by rfl)) ?_|refine yAa (yAv rfl rfl h1) ?_|refine yAa (yA0 rfl rfl h4) ?_)|refine yFg ?_;refine yAa (yAc rfl rfl q2) ?_|refine yF5 ?_;refine yAa (yAe rfl rfl q3) ?_|refine xst ?_|refine xsa ?_;intro _|refine xsb ?_ ?_<;>intro _<;>try omega|refine xsc ?_|exact xdn ()|fail)
 rw [if_neg h4] at hO
 have h4:((V % 2:Nat):Int)=k:=zO
 have c2:=yLR (W:=W) V hV raw
 have hcw:IntKind.i64.wrap ((V:Nat):Int)=((V:Nat):Int):=i64_in _ zO
 cases ho:yBU ((V:Nat):Int) raw with
 |none=>
  rw [ho] at hO c2
  rw [(hnone hO).1,(hnone hO).2]
  have c2':CtU prog W 151 [.int .u64 (V:Nat),strV raw] [] (.tuple #[strV [],.bool false]) []:=c2
  refine Ct.enter func124 rfl ntmps124 zW (fun R=>?_)
  repeat' (first|(refine yAb ?_;first|refine xca c2' fun _=>?_|refine xca c1 fun _=>?_)|refine yEf ?_;refine yAa (yAg rfl hcv) ?_|refine yYY ?_;refine yAa (yHj rfl rfl zO hr) ?_|(refine yD3 ?_;first|refine yAa (yAv rfl rfl (by rfl)) ?_|refine yAa (yAv rfl rfl h1) ?_|refine yAa (yAv rfl rfl h4) ?_)|refine yFg ?_;refine yAa (yAc rfl rfl q2) ?_|refine yF5 ?_;refine yAa (yAe rfl rfl q3) ?_|refine xst ?_|refine xsa ?_;intro _|refine xsb ?_ ?_<;>intro _<;>try omega|refine xsc ?_|exact xdn ()|fail)
 |some v=>
  rw [ho] at hO c2
  have e1:yCu raw k=v:=by unfold yCu;rw [hO];rfl
  have e2:yAM raw k=(V:Nat):=by unfold yAM;rw [hO];rfl
  rw [e1,e2]
  have c2':CtU prog W 151 [.int .u64 (V:Nat),strV raw] [] (.tuple #[strV v,.bool true]) []:=c2
  refine Ct.enter func124 rfl ntmps124 zW (fun R=>?_)
  repeat' (first|(refine yAb ?_;first|refine xca c2' fun _=>?_|refine xca c1 fun _=>?_)|(refine yEf ?_;first|refine yAa (yAg rfl hcw) ?_|refine yAa (yAg rfl hcv) ?_)|refine yYY ?_;refine yAa (yHj rfl rfl zO hr) ?_|(refine yD3 ?_;first|refine yAa (yAv rfl rfl (by rfl)) ?_|refine yAa (yAv rfl rfl h1) ?_|refine yAa (yAv rfl rfl h4) ?_)|refine yFg ?_;refine yAa (yAc rfl rfl q2) ?_|refine yF5 ?_;refine yAa (yAe rfl rfl q3) ?_|refine xst ?_|refine xsa ?_;intro _|refine xsb ?_ ?_<;>intro _<;>try omega|refine xsc ?_|exact xdn ()|fail)
section
variable {P:Program} {n:Nat} {E:Env} {H:List SP} {x y:Operand} {t u:TypeId}
theorem yHT {i j r:Int} (hx:Env.ev E x=some (.int .i64 i)) (hy:Env.ev E y=some (.int .i64 j)) (hb:0≤i∧i≤9223372036854775807∧0<j) (h:i / j=r):Ev P W n E H (.binOp .quo t x y u) (.int .i64 r):=by
 subst h;exact yKQ hx hy hb
end
theorem yVR {image:List UInt8} {N:Nat} (hN:image.length=N*256) (at_:Int):(Dsk.of image).roomB at_=decide (0≤at_∧at_≤(N:Int)-2):=by
 have e:(Dsk.of image).n=N:=by show image.length / 256=N;omega
 unfold Dsk.roomB
 rw [e]
theorem yTF (image:List UInt8) (N:Nat) (hN:image.length=N*256) (hN2:N≤65536) (at_:Int):CtU prog W 74 [strV image,.int .i64 at_] [] (.tuple #[strV (yBt (Dsk.of image) at_),.int .i64 (yBC (Dsk.of image) at_),.int .i64 (yA9 (Dsk.of image) at_:Nat)]) []:=by
 have hq:((image.length:Nat):Int) / 256=((N:Nat):Int):=zO
 have hroom:=yVR hN at_
 by_cases hr:0≤at_∧at_≤(N:Int)-2
 rotate_left
 ·have e:yA9 (Dsk.of image) at_=6:=by unfold yA9;rw [hroom,if_pos (zZ hr)]
  have e1:yBt (Dsk.of image) at_=[]:=by unfold yBt;rw [e];rfl
  have e2:yBC (Dsk.of image) at_=0:=by unfold yBC;rw [e];rfl
  rw [e,e1,e2]
  by_cases h0:at_<0
  ·have q1:decide (at_<0)=true:=zY h0
   refine Ct.enter func74 rfl ntmps74 zW (fun R=>?_)
   repeat' (first|refine yDK ?_;refine yAa (yHT rfl rfl zO hq) ?_|refine yFg ?_;refine yAa (yAc rfl rfl q1) ?_|refine xst ?_|refine xsa ?_;intro _|refine xsb ?_ ?_<;>intro _<;>try omega|refine xsc ?_|exact xdn ()|fail)
  ·have q1:decide (at_<0)=false:=zZ h0
   have q2:decide ((N:Int)-2<at_)=true:=zY zO
   refine Ct.enter func74 rfl ntmps74 zW (fun R=>?_)
   repeat' (first|refine yDK ?_;refine yAa (yHT rfl rfl zO hq) ?_|refine yFg ?_;refine yAa (yAc rfl rfl q1) ?_|refine yF5 ?_;refine yAa (yAe rfl rfl q2) ?_|refine xst ?_|refine xsa ?_;intro _|refine xsb ?_ ?_<;>intro _<;>try omega|refine xsc ?_|exact xdn ()|fail)
 obtain ⟨a,rfl⟩:∃ a:Nat,at_=(a:Int):=⟨at_.toNat,zO⟩
 have q1:decide (((a:Nat):Int)<0)=false:=zZ zO
 have q2:decide ((N:Int)-2<((a:Nat):Int))=false:=zZ zO
 rw [zY hr] at hroom
 have hE:yA9 (Dsk.of image) (a:Nat)=if yAL (Dsk.of image) a 2=0 then 14 else 0:=by
  unfold yA9;rw [if_neg (by rw [hroom];simp),if_neg (by show ¬ (false=true);simp),zLe]
 obtain ⟨D,hD⟩:∃ D,D=Dsk.of image:=⟨_,rfl⟩
 have hrd:∀ i,D.rd i=cut image (i*256) 256:=fun i=>by rw [hD];show (yFY [] i).getD _=_;rw [yGz];rfl
 have hver:∀ k,yAL D a (k+1)=if yAL D a k<yAM (cut image ((a+k)*256) 256) k then yAM (cut image ((a+k)*256) 256) k else yAL D a k:=fun k=>by rw [← hrd];rfl
 have hval:∀ k,yBv D a (k+1)=if yAL D a k<yAM (cut image ((a+k)*256) 256) k then yCu (cut image ((a+k)*256) 256) k else yBv D a k:=fun k=>by rw [← hrd];rfl
 have hS:yBt D (a:Nat)=if yAL D a 2=0 then [] else yBv D a 2:=by
  unfold yBt;rw [hD,hE,zLe]
  split <;> simp_all
 have hNn:yBC D (a:Nat)=if yAL D a 2=0 then 0 else yAL D a 2:=by
  unfold yBC;rw [hD,hE,zLe]
  split <;> simp_all
 rw [← hD] at hE ⊢
 have v0:yAL D a 0=0:=rfl
 have w0:yBv D a 0=[]:=rfl
 clear hD hrd hroom
 refine Ct.enter func74 rfl ntmps74 zW (fun R=>?_)
 repeat' (first|refine yDK ?_;refine yAa (yHT rfl rfl zO hq) ?_|refine yFg ?_;refine yAa (yAc rfl rfl q1) ?_|refine yF5 ?_;refine yAa (yAe rfl rfl q2) ?_|refine xst ?_|refine xsa ?_;intro _|refine xsb ?_ ?_<;>intro _<;>try omega|refine xsc ?_|fail)
 refine yAz (fun k:{k:Nat//k≤2}=>[(0,strV image),(1,.int .i64 (a:Nat)),(8,strV (yBv D a k.1)),(9,.int .i64 (yAL D a k.1)),(10,.int .i64 (k.1:Nat))]) (fun _=>R) (fun k=>2-k.1) ⟨0,zO⟩ ?_ (fun _ q=>q) (fun ⟨k,hk⟩=>?_)
 ·dsimp only
  rw [v0,w0]
  exact xB
 dsimp only
 by_cases hlt:k<2
 ·have hvk:=hver k
  have hwk:=hval k
  obtain ⟨raw,hraw⟩:∃ raw,raw=cut image ((a+k)*256) 256:=⟨_,rfl⟩
  rw [← hraw] at hvk hwk
  have cs:=yVQ (W:=W) raw ((k:Nat):Int)
  have hcut:(image.take ((((a+k)*256+256:Nat):Int)).toNat).drop ((((a+k)*256:Nat):Int)).toNat=raw:=by
   rw [zLe,zLe,List.drop_take,hraw]
   unfold cut
   congr 1
   omega
  have hAK:((a:Nat):Int)+((k:Nat):Int)=((a+k:Nat):Int):=zO
  have hMK:((a+k:Nat):Int)*256=(((a+k)*256:Nat):Int):=zO
  have hPK:(((a+k)*256:Nat):Int)+256=(((a+k)*256+256:Nat):Int):=zO
  by_cases hc:yAL D a k<yAM raw k
  ·rw [if_pos hc] at hvk hwk
   have q3:decide (yAL D a k<yAM raw k)=true:=zY hc
   repeat' (first|refine yAb ?_;refine xca cs fun _=>?_|refine yAQ ?_;refine yAa (yBK rfl rfl rfl zO hcut) ?_|(refine yWf ?_;first|refine yAa (yAd (r:=((k+1:Nat):Int)) rfl rfl zO zO) ?_|refine yAa (yAd rfl rfl hPK zO) ?_|refine yAa (yAd rfl rfl hAK zO) ?_)|refine yRP ?_;refine yAa (yAG rfl rfl hMK zO) ?_|refine yF5 ?_;refine yAa (yAe rfl rfl q3) ?_|refine xst ?_|refine xsa ?_;intro _|refine xsb ?_ ?_<;>intro _<;>try omega|refine xsc ?_|fail)
   all_goals refine yAp ⟨k+1,zO⟩ (by show 2-(k+1)<2-k;omega) ?_ (fun _ q=>q)
   all_goals dsimp only
   all_goals rw [hvk,hwk]
   all_goals exact xB
  ·rw [if_neg hc] at hvk hwk
   have q3:decide (yAL D a k<yAM raw k)=false:=zZ hc
   repeat' (first|refine yAb ?_;refine xca cs fun _=>?_|refine yAQ ?_;refine yAa (yBK rfl rfl rfl zO hcut) ?_|(refine yWf ?_;first|refine yAa (yAd (r:=((k+1:Nat):Int)) rfl rfl zO zO) ?_|refine yAa (yAd rfl rfl hPK zO) ?_|refine yAa (yAd rfl rfl hAK zO) ?_)|refine yRP ?_;refine yAa (yAG rfl rfl hMK zO) ?_|refine yF5 ?_;refine yAa (yAe rfl rfl q3) ?_|refine xst ?_|refine xsa ?_;intro _|refine xsb ?_ ?_<;>intro _<;>try omega|refine xsc ?_|fail)
   all_goals refine yAp ⟨k+1,zO⟩ (by show 2-(k+1)<2-k;omega) ?_ (fun _ q=>q)
   all_goals dsimp only
   all_goals rw [hvk,hwk]
   all_goals exact xB
 ·have hk2:k=2:=by omega
  subst hk2
  by_cases hz:yAL D a 2=0
  ·rw [hS,hNn,hE,if_pos hz,if_pos hz,if_pos hz]
   repeat' (first|refine yDe ?_;refine yAa (yDf rfl rfl hz) ?_|refine xst ?_|refine xsa ?_;intro _|refine xsb ?_ ?_<;>intro _<;>try omega|refine xsc ?_|exact xdn ()|fail)
  ·rw [hS,hNn,hE,if_neg hz,if_neg hz,if_neg hz]
   repeat' (first|refine yDe ?_;refine yAa (yBl rfl rfl hz) ?_|refine xst ?_|refine xsa ?_;intro _|refine xsb ?_ ?_<;>intro _<;>try omega|refine xsc ?_|exact xdn ()|fail)
end
end Go.Proofs.YtlnbkbfblhofbaaGreatDoor
