/- A part of the proof. No condition. -/
import Derived.Test.YteoghgbnielkpaaGreatTC1
import Derived.Shelf.Bits.Mul64
import Derived.Shelf.Small.Bits
import Derived.Shelf.Strconv.Itoa0
import Derived.Deep.CutBlock
import Derived.Deep.DeepCutAuto
import Derived.Lib.ItoaNum
import Derived.Outline
import Derived.Deep.RegionHeld3

set_option maxRecDepth 100000
set_option maxHeartbeats 8000000
set_option linter.unusedVariables false
set_option linter.unusedSimpArgs false
namespace Go.Proofs.YteoghgbnielkpaaGreat
open Go.RowKit
open Tryz
open Go renaming World->vw, Value->vx, Addr->vy, TypeId->vz, Calls->vB
open Go.Value renaming int->vd, slice->ve
open Go.IntKind renaming u64->vn, i64->vq
open Go.Ending renaming returned->vl
open Go.RowKit renaming Below->vA
open Go.Act renaming put->vG
open Option renaming none->vD, some->vE
def ren264:Go.Shelf.Ren:=⟨fun | 264=>259 | n=>n,fun | 46=>338 | 53=>22 | n=>n,fun n=>n⟩
theorem zD2:Go.Proofs.Lays.n264 prog ren264:={ mixed:=by kernel_rfl,f264:=by kernel_rfl,t46:=by kernel_rfl,a46:=fun _=>by kernel_rfl,z46:=fun _=>by kernel_rfl,v46:=fun _=>by kernel_rfl,t53:=by kernel_rfl,a53:=fun _=>by kernel_rfl,z53:=fun _=>by kernel_rfl,v53:=fun _=>by kernel_rfl }
theorem K5 (x y:Nat) (w:vw) (hx:x<18446744073709551616) (hy:y<18446744073709551616) :
  vB prog 259 #[vd vn x,vd vn y] w fun e w'=>e=vl (.tuple #[vd vn ((x*y / 18446744073709551616:Nat):Int),vd vn ((x*y%18446744073709551616:Nat):Int)]) /\ w'=w :=
 Any.bits_Mul64 zD2 x y hx hy w
def ren134:Go.Shelf.Ren:=⟨fun | 129=>298 | 134=>296 | n=>n,fun | 3=>3 | 4=>4 | 5=>5 | 9=>9 | 46=>338 | 53=>22 | n=>n,fun n=>n⟩
theorem zD0:Go.Proofs.Lays.n134 prog ren134:={ mixed:=by kernel_rfl,f129:=by kernel_rfl,f134:=by kernel_rfl,t3:=by kernel_rfl,a3:=fun _=>by kernel_rfl,z3:=fun _=>by kernel_rfl,v3:=fun _=>by kernel_rfl,t4:=by kernel_rfl,a4:=fun _=>by kernel_rfl,z4:=fun _=>by kernel_rfl,v4:=fun _=>by kernel_rfl,t5:=by kernel_rfl,a5:=fun _=>by kernel_rfl,z5:=fun _=>by kernel_rfl,v5:=fun _=>by kernel_rfl,t9:=by kernel_rfl,a9:=fun _=>by kernel_rfl,z9:=fun _=>by kernel_rfl,v9:=fun _=>by kernel_rfl,t46:=by kernel_rfl,a46:=fun _=>by kernel_rfl,z46:=fun _=>by kernel_rfl,v46:=fun _=>by kernel_rfl,t53:=by kernel_rfl,a53:=fun _=>by kernel_rfl,z53:=fun _=>by kernel_rfl,v53:=fun _=>by kernel_rfl }
theorem zEg (x:Int) (w:vw) (h0:0 <= x) (h1:x <= 18446744073709551615) :
  vB prog 296 #[vd vn x] w fun e w'=>e=vl (vd vq (64-(Lib.bitLen x.toNat:Int))) /\ w'=w:=Any.bits_LeadingZeros64 zD0 x w h0 h1
def ren125:Go.Shelf.Ren:=⟨fun | 125=>267 | 128=>297 | 129=>298 | n=>n,fun | 3=>3 | 4=>4 | 5=>5 | 9=>9 | 46=>338 | 51=>107 | 53=>22 | n=>n,fun n=>n⟩
theorem zDZ:Go.Proofs.Lays.n125 prog ren125:={ mixed:=by kernel_rfl,f125:=by kernel_rfl,f128:=by kernel_rfl,f129:=by kernel_rfl,t3:=by kernel_rfl,a3:=fun _=>by kernel_rfl,z3:=fun _=>by kernel_rfl,v3:=fun _=>by kernel_rfl,t4:=by kernel_rfl,a4:=fun _=>by kernel_rfl,z4:=fun _=>by kernel_rfl,v4:=fun _=>by kernel_rfl,t5:=by kernel_rfl,a5:=fun _=>by kernel_rfl,z5:=fun _=>by kernel_rfl,v5:=fun _=>by kernel_rfl,t9:=by kernel_rfl,a9:=fun _=>by kernel_rfl,z9:=fun _=>by kernel_rfl,v9:=fun _=>by kernel_rfl,t46:=by kernel_rfl,a46:=fun _=>by kernel_rfl,z46:=fun _=>by kernel_rfl,v46:=fun _=>by kernel_rfl,t51:=by kernel_rfl,a51:=fun _=>by kernel_rfl,z51:=fun _=>by kernel_rfl,v51:=fun _=>by kernel_rfl,t53:=by kernel_rfl,a53:=fun _=>by kernel_rfl,z53:=fun _=>by kernel_rfl,v53:=fun _=>by kernel_rfl }
theorem zD4 (x:Int) (w:vw) (h0:0 <= x) (h1:x <= 18446744073709551615) :
  vB prog 267 #[vd vn x] w fun e w'=>e=vl (vd vq (Lib.bitLen x.toNat)) /\ w'=w:=Any.bits_Len zDZ x w h0 h1
theorem zCh {u v y ym Lt:Nat} (hy:y=ym*4294967296+Lt) (hn:Lt<4294967296) (h1:2147483648 <= ym) (hu:u<y) (hv:v<4294967296) :
  (u*4294967296+v) / y <= u / ym /\ u / ym <= 4294967297 /\ (u*4294967296+v) / y<4294967296:=by
 refine ⟨?_,?_,?_⟩
 ·rw [Nat.le_div_iff_mul_le (by omega)]
  have h2:(u*4294967296+v) / y*y <= u*4294967296+v:=Nat.div_mul_le_self _ _;generalize (u*4294967296+v) / y=q at *;have h3:q*y=q*ym*4294967296+q*Lt:=by rw [hy,Nat.mul_add,Nat.mul_assoc]
  omega
 ·have:u<(4294967298)*ym:=by omega
  have:=(Nat.div_lt_iff_lt_mul (k:=ym) (by omega)).2 this
  omega
 ·rw [Nat.div_lt_iff_lt_mul (by omega)]
  have:u+1 <= y:=hu;have h:=dE 4294967296 this;rw [ze 4294967296 y];omega
theorem FY {u v y ym Lt c:Nat} (hy:y=ym*4294967296+Lt) (h1:2147483648 <= ym) (hc:c*ym <= u) :
  (4294967296*(u-c*ym)+v<c*Lt)↔(u*4294967296+v) / y<c:=by
 rw [Nat.div_lt_iff_lt_mul (by omega)]
 have h3:c*y=c*ym*4294967296+c*Lt:=by rw [hy,Nat.mul_add,Nat.mul_assoc]
 omega
theorem zCg {u v y ym Lt c:Nat} (hy:y=ym*4294967296+Lt) (hn:Lt<4294967296) (h1:2147483648 <= ym) (hc:c*ym <= u) (hb:c <= 4294967296) (hr:4294967296 <= u-c*ym) (hq:(u*4294967296+v) / y<c+1) :
  c=(u*4294967296+v) / y:=by
 have h:=not_congr (FY (v:=v) hy h1 hc);have h5:c*Lt <= 4294967296*Lt:=dE _ hb;have h6:¬(4294967296*(u-c*ym)+v<c*Lt):=by
  have:4294967296*Lt <= 4294967296*4294967295:=Nat.mul_le_mul_left _ (by omega)
  have:4294967296*4294967296 <= 4294967296*(u-c*ym):=Nat.mul_le_mul_left _ hr;omega
 have:=h.1 h6;omega
theorem zCk {X y0 s y u v1 v0 q1 r1 q0 r0:Nat} (hy:y=y0*2^s) (IC:0<y0) (hU:X*2^s=(u*4294967296+v1)*4294967296+v0)
  (e1:q1=(u*4294967296+v1) / y) (f1:r1=(u*4294967296+v1)%y) (e0:q0=(r1*4294967296+v0) / y) (f0:r0=(r1*4294967296+v0)%y) :
  X / y0=q1*4294967296+q0 /\ X%y0=r0 / 2^s:=by
 have hp:0<2^s:=Nat.pow_pos (by omega)
 have hyp:0<y:=by rw [hy];exact Nat.mul_pos IC hp
 have a1:(u*4294967296+v1)=y*q1+r1:=by rw [e1,f1,bu]
 have a0:(r1*4294967296+v0)=y*q0+r0:=by rw [e0,f0,bu]
 have hr:r0<y:=by rw [f0];exact ic _ hyp
 have key:X*2^s=y*(q1*4294967296+q0)+r0:=by
  have e1:y*(q1*4294967296+q0)=y*q1*4294967296+y*q0:=by rw [Nat.mul_add y,Nat.mul_assoc]
  omega
 have hdiv:X / y0=q1*4294967296+q0:=by
  rw [<- Nat.mul_div_mul_right X y0 hp,<- hy,key,Nat.mul_add_div hyp,Nat.div_eq_of_lt hr,ss]
 refine ⟨hdiv,?_⟩;have hm:X*2^s%y=r0:=by rw [key,Nat.mul_add_mod,Kj hr]
 rw [hy,Nat.mul_mod_mul_right] at hm;rw [<- hm,Nat.mul_div_cancel _ hp]
theorem zBA {y:Nat} (h0:y≠0) (h:y<18446744073709551616):Lib.bitLen y <= 64 /\ 9223372036854775808 <= y*2^(64-Lib.bitLen y) /\ y*2^(64-Lib.bitLen y)<18446744073709551616:=by
 obtain ⟨h1,h2,h3⟩:=Lib.bitLenAux_bounds 64 y h h0;have h4:Lib.bitLenAux 64 y <= 64:=Lib.bitLenAux_le 64 y 64 h;have e:Lib.bitLen y=Lib.bitLenAux 64 y:=rfl;rw [e];generalize Lib.bitLenAux 64 y=k at *;have e1:2^(k-1)*2^(64-k)=2^63:=by rw [<- Nat.pow_add];congr 1;omega
 have e2:2^k*2^(64-k)=2^64:=by rw [<- Nat.pow_add];congr 1;omega
 refine ⟨h4,?_,?_⟩
 ·have:=dE (2^(64-k)) h2
  omega
 ·have:=(Nat.mul_lt_mul_right (a:=2^(64-k)) (Nat.pow_pos (by omega))).2 h3
  omega
theorem Wk (a:Nat) (h:a<18446744073709551616):vn.wrap (a:Int)=a:=by rw [pj];omega
theorem fX (a:Nat):vn.wrap (a:Int)=((a%18446744073709551616:Nat):Int):=by rw [pj];omega
theorem mR (a b:Nat) (h:a*b<18446744073709551616):vn.wrap ((a:Int)*b)=((a*b:Nat):Int):=by rw [<- Uf,Wk _ h]
theorem zA1 (a b:Nat):vn.wrap ((a:Int)*b)=((a*b%18446744073709551616:Nat):Int):=by rw [<- Uf,fX]
theorem lR (a b:Nat) (h:a+b<18446744073709551616):vn.wrap ((a:Int)+b)=((a+b:Nat):Int):=by rw [<- Ml,Wk _ h]
theorem zIz (a b:Nat):vn.wrap ((a:Int)+b)=(((a+b)%18446744073709551616:Nat):Int):=by rw [<- Ml,fX]
theorem Py (a b:Nat) (h:b <= a) (ha:a<18446744073709551616):vn.wrap ((a:Int)-b)=((a-b:Nat):Int):=by rw [pj];omega
theorem zIA {X c Z r:Nat} (h:X+c=Z+r) (hr:r<18446744073709551616):vn.wrap ((((X%18446744073709551616+c)%18446744073709551616:Nat):Int)-((Z%18446744073709551616:Nat):Int))=(r:Int):=by
 rw [pj];omega
theorem zE6 (a b s:Nat) (hs:s <= 64) (ha:a*2^s<18446744073709551616) (hb:b<2^s):bits .or vn ((a*2^s:Nat):Int) (b:Int)=((a*2^s+b:Nat):Int):=by
 have h1:b<18446744073709551616:=by
  rcases Ho a with h0 | h0
  ·subst h0
   have:2^s <= 2^64:=Io (by omega) hs
   omega
  ·have:2^s <= a*2^s:=Nat.le_mul_of_pos_left _ h0
   omega
 have h:=bits_or_u64_nat (a*2^s) b ha h1;rw [h,ze a,Nat.two_pow_add_eq_or_of_lt hb]
theorem B5 (a:Nat) (ha:a<18446744073709551616):bits .and vn (a:Int) 4294967295=((a%4294967296:Nat):Int):=by
 have h:=bits_and_u64_nat a 4294967295 ha (by omega)
 have e:a &&& 4294967295=a%4294967296:=Nat.and_two_pow_sub_one_eq_mod a 32;rw [e] at h;exact h
theorem GY {u v Y a b:Nat} (hY:Y=a*4294967296+b) (hb:b<4294967296) (ha:2147483648 <= a) (hu:u<Y) (hv:v<4294967296) (hY2:Y<18446744073709551616) :
  ∃ Q r k0 k0a rh U1 U2 U3:Nat,(Q=(u*4294967296+v) / Y /\ r=(u*4294967296+v)%Y) /\ r<Y /\ Q<4294967296 /\ Q <= k0 /\ k0 <= 4294967297 /\ (k0*a <= u /\ rh=u-k0*a) /\ rh<4294967296 /\
   (u:Int) / (a:Int)=k0 /\ vn.wrap ((k0:Int)*a)=(k0a:Int) /\ vn.wrap ((u:Int)-k0a)=(rh:Int) /\
   vn.wrap ((u:Int)*4294967296)=(U1:Int) /\ vn.wrap ((U1:Int)+v)=(U2:Int) /\ vn.wrap ((Q:Int)*Y)=(U3:Int) /\ vn.wrap ((U2:Int)-U3)=(r:Int):=by
 obtain ⟨t1,t2,t3⟩:=zCh hY hb ha hu hv;have h1:=Nat.div_mul_le_self u a;have h2:=ic u (show 0<a by omega)
 have h3:=bu u a;have h4:=ze a (u / a);have hr:=ic (u*4294967296+v) (show 0<Y by omega)
 have h5:=bu (u*4294967296+v) Y;rw [ze Y] at h5;refine ⟨(u*4294967296+v) / Y,(u*4294967296+v)%Y,u / a,u / a*a,u-u / a*a,u*4294967296%18446744073709551616,(u*4294967296%18446744073709551616+v)%18446744073709551616,(u*4294967296+v) / Y*Y%18446744073709551616,
  ⟨rfl,rfl⟩,hr,t3,t1,t2,⟨h1,rfl⟩,by omega,rfl,mR _ _ (by omega),Py _ _ h1 (by omega),zA1 u 4294967296,zIz _ _,zA1 _ _,zIA h5.symm (by omega)⟩
theorem S8 {u a k r Q:Nat} (hK:k*a <= u /\ r=u-k*a) (ta:Q<k) (hk:k <= 4294967297) (hr:r<4294967296) (_ha:2147483648 <= a) (haT:a<4294967296) :
  ∃ k1 r1:Nat,vn.wrap ((k:Int)-1)=(k1:Int) /\ vn.wrap ((r:Int)+a)=(r1:Int) /\ k=k1+1 /\ r1=r+a :=
 ⟨k-1,r+a,Py k 1 (by omega) (by omega),lR _ _ (by omega),by omega,rfl⟩
theorem ZV {u a k r k1 r1 Q:Nat} (hK:k*a <= u /\ r=u-k*a) (h1:k=k1+1) (h2:r1=r+a) (_hlt:Q<k):k1*a <= u /\ r1=u-k1*a:=by
 subst h1;rw [Nat.add_mul k1 1,Nat.one_mul] at hK;omega
theorem T8 {u v Y a b k r k1 r1 Q:Nat} (hY:Y=a*4294967296+b) (hb:b<4294967296) (ha:2147483648 <= a) (hK:k*a <= u /\ r=u-k*a) (hQ:Q=(u*4294967296+v) / Y) (h1:k=k1+1) (h2:r1=r+a) (ta:Q<k) (hk:k <= 4294967297) (hS:4294967296 <= r1):Q=k1:=by
 obtain ⟨g1,g2⟩:=ZV hK h1 h2 ta;rw [g2] at hS;have:=zCg (v:=v) hY hb ha g1 (by omega) hS (by omega)
 omega
theorem IQ {u v Y a b k r Q:Nat} (hY:Y=a*4294967296+b) (hb:b<4294967296) (ha:2147483648 <= a) (hv:v<4294967296) (hK:k*a <= u /\ r=u-k*a) (hr:r<4294967296) (hQ:Q=(u*4294967296+v) / Y) (hB:k<4294967296) :
  ∃ kb r2 r3:Nat,vn.wrap ((k:Int)*b)=(kb:Int) /\ vn.wrap (4294967296*(r:Int))=(r2:Int) /\ vn.wrap ((r2:Int)+v)=(r3:Int) /\ (r3<kb↔Q<k):=by
 have h1:k*b <= 4294967295*b:=dE _ (by omega)
 have h2:=FY (v:=v) hY ha hK.1;rw [<- hK.2,<- hQ] at h2;exact ⟨k*b,4294967296*r,4294967296*r+v,mR _ _ (by omega),mR 4294967296 r (by omega),lR _ _ (by omega),h2⟩
theorem zCl {h l y s Y:Nat} (hh:h<y) (hl:l<18446744073709551616) (hY:Y=y*2^s) (hs:s <= 64) (hy:Y<18446744073709551616) :
  h*2^s<18446744073709551616 /\ l / 2^(64-s)<2^s /\ h*2^s+l / 2^(64-s)<Y /\
  (h*18446744073709551616+l)*2^s=((h*2^s+l / 2^(64-s))*4294967296+(l*2^s%18446744073709551616) / 4294967296)*4294967296+(l*2^s%18446744073709551616)%4294967296:=by
 have hp:0<2^s:=Nat.pow_pos (by omega)
 have e64:2^(64-s)*2^s=18446744073709551616:=by rw [<- Nat.pow_add,show 64-s+s=64 by omega]
 have h1:h*2^s<Y:=by rw [hY];exact (Nat.mul_lt_mul_right hp).2 hh
 have h2:l / 2^(64-s)<2^s:=by rw [Nat.div_lt_iff_lt_mul (Nat.pow_pos (by omega)),ze,e64];exact hl
 have h3:l*2^s / 18446744073709551616=l / 2^(64-s):=by rw [<- e64,Nat.mul_div_mul_right _ _ hp]
 have h4:h*2^s+l / 2^(64-s)<Y:=by
  have:(h+1)*2^s <= Y:=by rw [hY];exact dE _ hh
  rw [Nat.add_mul h 1] at this;omega
 refine ⟨by omega,h2,h4,?_⟩
 rw [<- h3,Nat.add_mul (h*18446744073709551616) l,Nat.mul_right_comm];generalize l*2^s=A;generalize h*2^s=C;omega
theorem LY (h l y:Nat) (w:vw) (hh:h<y) (hl:l<18446744073709551616) (hy:y<18446744073709551616) :
  vB prog 260 #[vd vn h,vd vn l,vd vn y] w fun e w'=>e=vl (.tuple #[vd vn (((h*18446744073709551616+l) / y:Nat):Int),vd vn (((h*18446744073709551616+l)%y:Nat):Int)]) /\ ∃ k,w'=w.drewN k:=by
 have g1:((y:Int) == 0)=false:=by rw [Gd];omega
 by_cases hz:h=0
 ·subst hz
  have g0:decide (y=0)=false:=db (by omega)
  have p1:(0:Int)<y:=by omega
  have p2:¬((y:Int)=0):=by omega
  have q1:vn.wrap ((l:Int) / (y:Int))=((l / y:Nat):Int):=by
   rw [<- Int.natCast_ediv,Wk];have:=qz l y;omega
  have HH:=zH hh;clear hh;go_enter func260,ntmps260
  go_wp2_with fail
  go_quiet (fail)
  go_wp2
  go_ret2
  refine ⟨?_,_,rfl⟩;rw [Nat.zero_mul,Lj]
  rfl
 ·have g3:((h:Int) == 0)=false:=by rw [Gd];omega
  have g2:¬(y <= h):=by omega
  obtain ⟨b0,b1,b2⟩:=zBA (y:=y) (by omega) hy
  have HL:=zH (fun w=>zEg (y:Int) w (by omega) (by omega))
  rw [Bk] at HL;have hs:(64-(Lib.bitLen y:Int))=((64-Lib.bitLen y:Nat):Int):=by omega
  rw [hs] at HL;clear hs;revert HL b1 b2
  generalize hs:64-Lib.bitLen y=s;have lK:s <= 64:=by omega
  clear hs b0;intro b1 b2 HL;obtain ⟨Y,hY⟩:=zEX (y*2^s);rw [<- hY] at b1 b2;have e1:vn.wrap ((y:Int)*2^s)=(Y:Int):=by
   rw [show ((y:Int)*2^s)=((y*2^s:Nat):Int) by rw [Uf,Bo];rfl,<- hY,Wk _ b2]
  obtain ⟨s1,s2,s3,s4⟩:=zCl hh hl hY lK b2;have e4:vn.wrap ((h:Int)*2^s)=((h*2^s:Nat):Int):=by
   rw [show ((h:Int)*2^s)=((h*2^s:Nat):Int) by rw [Uf,Bo];rfl,Wk _ s1]
  have e5:bits .or vn ((h*2^s:Nat):Int) ((l:Int) / 2^(64-s))=((h*2^s+l / 2^(64-s):Nat):Int):=by
   rw [show ((l:Int) / 2^(64-s))=((l / 2^(64-s):Nat):Int) by rw [Int.natCast_ediv,Bo];rfl]
   exact zE6 _ _ _ lK s1 s2
  have e6:vn.wrap ((l:Int)*2^s)=((l*2^s%18446744073709551616:Nat):Int):=by
   rw [show ((l:Int)*2^s)=((l*2^s:Nat):Int) by rw [Uf,Bo];rfl,fX]
  have HR:Hid (∀ q1 r1 q0 r0,q1=((h*2^s+l / 2^(64-s))*4294967296+(l*2^s%18446744073709551616) / 4294967296) / Y ->
    r1=((h*2^s+l / 2^(64-s))*4294967296+(l*2^s%18446744073709551616) / 4294967296)%Y -> q0=(r1*4294967296+(l*2^s%18446744073709551616)%4294967296) / Y ->
    r0=(r1*4294967296+(l*2^s%18446744073709551616)%4294967296)%Y -> (h*18446744073709551616+l) / y=q1*4294967296+q0 /\ (h*18446744073709551616+l)%y=r0 / 2^s) :=
   fun q1 r1 q0 r0 f1 f2 f3 f4=>zCk hY (by omega) s4 f1 f2 f3 f4
  clear s1 s2 s4;revert HR e4 e5 e6 s3
  generalize h*2^s=H;generalize H+l / 2^(64-s)=u;have hL:l*2^s%18446744073709551616<18446744073709551616:=ic _ (by omega)
  revert hL
  generalize l*2^s%18446744073709551616=L;intro hL s3 e4 e5 e6 HR;have e7:(L:Int) / 4294967296=((L / 4294967296:Nat):Int):=rfl;have e8:=B5 L hL;have hc:L / 4294967296<4294967296:=by omega
  have hd:L%4294967296<4294967296:=by omega
  revert e7 e8 hc hd HR
  generalize L / 4294967296=c;generalize L%4294967296=d;intro HR e7 e8 hc hd;have e2:(Y:Int) / 4294967296=((Y / 4294967296:Nat):Int):=rfl;have e3:=B5 Y b2;have aK:2147483648 <= Y / 4294967296:=by omega
  have hb:Y%4294967296<4294967296:=by omega
  have yx:=zH (show Y=Y / 4294967296*4294967296+Y%4294967296 by omega)
  revert e2 e3 aK hb yx
  generalize Y / 4294967296=a;generalize Y%4294967296=b;intro e2 e3 aK hb yx;have HY:=zH hY;clear hY hL;have p1:(0:Int)<a:=by omega
  have p2:¬((a:Int)=0):=by omega
  have haT:a<4294967296:=by have:=yx.out;omega
  obtain ⟨Q1,v1,k0,k0a,rh0,U1,U2,U3,qx,sh,hQ1,Yj,aq,xk,Zg,x1,x2,x3,x4,x5,x6,x7⟩:=GY yx.out hb aK s3 hc b2;obtain ⟨Q0,v0,l0,l0a,rh1,V1,V2,V3,Xy,Vn,hQ0,Tv,hk0,HA0,hr0,y1,y2,y3,y4,y5,y6,y7⟩:=GY yx.out hb aK sh hd b2;have HX:=zH (HR.out Q1 v1 Q0 v0 qx.1 qx.2 Xy.1 Xy.2);obtain ⟨R,hR⟩:=zEX (v0 / 2^s);obtain ⟨M1,PH⟩:=zEX (Q1*4294967296);obtain ⟨M,hM⟩:=zEX (M1+Q0);have z1:vn.wrap ((Q1:Int)*4294967296)=(M1:Int):=by rw [PH];exact mR Q1 4294967296 (by omega)
  have z2:vn.wrap ((M1:Int)+Q0)=(M:Int):=by rw [hM];exact lR _ _ (by omega)
  have z3:(v0:Int) / 2^s=(R:Int):=by rw [hR,Int.natCast_ediv,Bo];rfl
  rw [<- hR,<- PH,<- hM] at HX;clear hR PH hM;have Xi:=zH hc;have BF:=zH hd;have Hb:=zH hb;have ZD:=zH aK;have HaT:=zH haT;replace hQ1:=zH hQ1;replace hQ0:=zH hQ0;replace aq:=zH aq;replace hk0:=zH hk0;replace Zg:=zH Zg;replace hr0:=zH hr0;replace b1:=zH b1;replace b2:=zH b2;have xk1:vn.wrap (k0:Int)=k0:=Wk _ (by have:=aq.out;omega)
  have xk0:vn.wrap (l0:Int)=l0:=Wk _ (by have:=hk0.out;omega)
  clear hc hd hb aK haT;replace qx:=zH qx;replace Xy:=zH Xy;replace xk:=zH xk;replace HA0:=zH HA0;clear HR hl hy s3;rw [HX.out.1,HX.out.2];go_enter func260,ntmps260
  go_upto_block 0 with (go_at_call 296;refine (HL.out _).mono ?_;rintro e w1 ⟨rfl,rfl⟩)
  go_cut [15] (fun s15 wx=>s15=vd vn Q1 /\ w1=wx)
  case first =>
   go_wp2_with fail
   go_loop [15,16] (fun x z=>∃ k r:Nat,Hid (k*a <= u /\ r=u-k*a) /\ Q1 <= k /\ k <= 4294967297 /\ r<4294967296 /\ x=vd vn k /\ z=vd vn r)
    (fun x _=>(intOf x).toNat)
   case atStart=>exact ⟨_,_,xk,Yj,aq.out,Zg.out,rfl,rfl⟩
   case round =>
    obtain ⟨k,r,HK,i1,i2,i3,rfl,rfl⟩:=hrel;have I2:=zH i2;have I3:=zH i3;clear i2 i3;by_cases ta:Q1<k
    ·obtain ⟨k1,r1,m1,m2,aq,Zg⟩:=S8 (a:=a) HK.out ta I2.out I3.out ZD.out HaT.out
     have HN:=zH (ZV HK.out aq Zg ta);have HF:=zH (fun h1=>T8 yx.out Hb.out ZD.out HK.out qx.out.1 aq Zg ta I2.out h1)
     have Yj:Q1 <= k1:=by omega
     have Ws:=zH (show k1 <= 4294967297 by have:=I2.out;omega)
     have hkd:k1<k:=by omega
     clear aq Zg;by_cases hB:4294967296 <= k
     ·have b1:¬((k:Int)<4294967296):=by omega
      by_cases hS:4294967296 <= r1
      ·have HS:=zH hS
       have sH:decide ((4294967296:Int)<=r1)=true:=tb (by omega)
       have tH:decide (4294967296 <= r1)=true:=tb (by omega)
       clear hS;go_wp2_with fail
       go_meet
       exact ⟨by rw [HF.out HS.out],rfl⟩
      ·have HS:=zH hS
       have sH:decide ((4294967296:Int)<=r1)=false:=db (by omega)
       have tH:decide (4294967296 <= r1)=false:=db (by omega)
       clear hS;go_wp2_with fail
       go_round
       case rel=>exact ⟨k1,r1,HN.out,Yj,Ws.out,Nat.not_le.1 HS.out,rfl,rfl⟩
       case measure=>simp [intOf];omega
     ·have b2:(k:Int)<4294967296:=by omega
      obtain ⟨kb,r2,r3,n1,n2,n3,hT⟩:=IQ yx.out Hb.out ZD.out Xi.out HK.out I3.out qx.out.1 (by omega)
      have UH:r3<kb:=hT.2 ta;clear hT;by_cases hS:4294967296 <= r1
      ·have HS:=zH hS
       have sH:decide ((4294967296:Int)<=r1)=true:=tb (by omega)
       have tH:decide (4294967296 <= r1)=true:=tb (by omega)
       clear hS;go_wp2_with fail
       go_meet
       exact ⟨by rw [HF.out HS.out],rfl⟩
      ·have HS:=zH hS
       have sH:decide ((4294967296:Int)<=r1)=false:=db (by omega)
       have tH:decide (4294967296 <= r1)=false:=db (by omega)
       clear hS;go_wp2_with fail
       go_round
       case rel=>exact ⟨k1,r1,HN.out,Yj,Ws.out,Nat.not_le.1 HS.out,rfl,rfl⟩
       case measure=>simp [intOf];omega
    ·have e:k=Q1:=by omega
     obtain ⟨kb,r2,r3,n1,n2,n3,hT⟩:=IQ yx.out Hb.out ZD.out Xi.out HK.out I3.out qx.out.1 (by have:=hQ1.out;omega)
     have UH:¬(r3<kb):=fun h=>ta (hT.1 h)
     have HE:=zH e;have hB:(k:Int)<4294967296:=by have:=hQ1.out;omega
     have d1:decide ((4294967296:Int)<=k)=false:=db (by omega)
     have d2:decide (4294967296 <= k)=false:=db (by omega)
     have f1:decide ((r3:Int)<kb)=false:=db (by omega)
     have f2:decide (r3<kb)=false:=db UH;clear hT e UH ta;go_wp2_with fail
     go_meet
     exact ⟨by rw [HE.out],rfl⟩
  case rest =>
   obtain ⟨rfl,rfl⟩:=hcut
   go_upto_block 2 with fail
   go_cut [18] (fun s15 wx=>s15=vd vn Q0 /\ w1=wx)
   case first =>
    go_wp2_with fail
    go_loop [18,16] (fun x z=>∃ k r:Nat,Hid (k*a <= v1 /\ r=v1-k*a) /\ Q0 <= k /\ k <= 4294967297 /\ r<4294967296 /\ x=vd vn k /\ z=vd vn r)
     (fun x _=>(intOf x).toNat)
    case atStart=>exact ⟨_,_,HA0,Tv,hk0.out,hr0.out,rfl,rfl⟩
    case round =>
     obtain ⟨k,r,HK,i1,i2,i3,rfl,rfl⟩:=hrel;have I2:=zH i2;have I3:=zH i3;clear i2 i3;by_cases ta:Q0<k
     ·obtain ⟨k1,r1,m1,m2,aq,Zg⟩:=S8 (a:=a) HK.out ta I2.out I3.out ZD.out HaT.out
      have HN:=zH (ZV HK.out aq Zg ta);have HF:=zH (fun h1=>T8 yx.out Hb.out ZD.out HK.out Xy.out.1 aq Zg ta I2.out h1)
      have Yj:Q0 <= k1:=by omega
      have Ws:=zH (show k1 <= 4294967297 by have:=I2.out;omega)
      have hkd:k1<k:=by omega
      clear aq Zg;by_cases hB:4294967296 <= k
      ·have b1:¬((k:Int)<4294967296):=by omega
       by_cases hS:4294967296 <= r1
       ·have HS:=zH hS
        have sH:decide ((4294967296:Int)<=r1)=true:=tb (by omega)
        have tH:decide (4294967296 <= r1)=true:=tb (by omega)
        clear hS;go_wp2_with fail
        go_meet
        exact ⟨by rw [HF.out HS.out],rfl⟩
       ·have HS:=zH hS
        have sH:decide ((4294967296:Int)<=r1)=false:=db (by omega)
        have tH:decide (4294967296 <= r1)=false:=db (by omega)
        clear hS;go_wp2_with fail
        go_round
        case rel=>exact ⟨k1,r1,HN.out,Yj,Ws.out,Nat.not_le.1 HS.out,rfl,rfl⟩
        case measure=>simp [intOf];omega
      ·have b2:(k:Int)<4294967296:=by omega
       obtain ⟨kb,r2,r3,n1,n2,n3,hT⟩:=IQ yx.out Hb.out ZD.out BF.out HK.out I3.out Xy.out.1 (by omega)
       have UH:r3<kb:=hT.2 ta;clear hT;by_cases hS:4294967296 <= r1
       ·have HS:=zH hS
        have sH:decide ((4294967296:Int)<=r1)=true:=tb (by omega)
        have tH:decide (4294967296 <= r1)=true:=tb (by omega)
        clear hS;go_wp2_with fail
        go_meet
        exact ⟨by rw [HF.out HS.out],rfl⟩
       ·have HS:=zH hS
        have sH:decide ((4294967296:Int)<=r1)=false:=db (by omega)
        have tH:decide (4294967296 <= r1)=false:=db (by omega)
        clear hS;go_wp2_with fail
        go_round
        case rel=>exact ⟨k1,r1,HN.out,Yj,Ws.out,Nat.not_le.1 HS.out,rfl,rfl⟩
        case measure=>simp [intOf];omega
     ·have e:k=Q0:=by omega
      obtain ⟨kb,r2,r3,n1,n2,n3,hT⟩:=IQ yx.out Hb.out ZD.out BF.out HK.out I3.out Xy.out.1 (by have:=hQ0.out;omega)
      have UH:¬(r3<kb):=fun h=>ta (hT.1 h)
      have HE:=zH e;have hB:(k:Int)<4294967296:=by have:=hQ0.out;omega
      have d1:decide ((4294967296:Int)<=k)=false:=db (by omega)
      have d2:decide (4294967296 <= k)=false:=db (by omega)
      have f1:decide ((r3:Int)<kb)=false:=db (by omega)
      have f2:decide (r3<kb)=false:=db UH;clear hT e UH ta;go_wp2_with fail
      go_meet
      exact ⟨by rw [HE.out],rfl⟩
   case rest =>
    obtain ⟨rfl,rfl⟩:=hcut;go_wp2_with fail
    go_ret2
    exact ⟨rfl,0,rfl⟩
structure ie (R:vw -> vw -> Prop):Prop where
 refl:∀ w,R w w
 trans:∀ a b c,R a b -> R b c -> R a c
def Ub (w w':vw):Prop:=vA w.1.size w w'
theorem ra:ie Ub:=⟨fun w=>Ca _ w,fun _ _ _ h k=>pa h k⟩
def Km (g:Nat) (w w':vw):Prop:=w.grownBy w' (vE g)
theorem Re (g:Nat):ie (Km g):=⟨fun w=>Ee w _,fun _ _ _ h k=>Pq h k fun _ e=>.inl e⟩
section
variable {P:Program} {ops:Array Oper} {Q:Exit -> Act -> vw -> Prop} {R:vw -> vw -> Prop}
theorem kR {S S':vw -> Prop} (hS:∀ w,S' w -> S w):∀ (fuel:Nat) (za:Array Bool) (a:Act) (w:vw),wpAnyH P .any ops Q S' fuel za a w -> wpAnyH P .any ops Q S fuel za a w
 | 0,_,_,_,h=>h
 | fuel+1,_,_,_,h=>⟨h.1,fun i hi=>wpOp_mono (fun a' w' h'=>⟨hS _ h'.1,kR hS fuel _ a' w' h'.2⟩) (h.2 i hi)⟩
def yn (P:Program) (ops:Array Oper) (Q:Exit -> Act -> vw -> Prop) (R:vw -> vw -> Prop) (fuel:Nat) (za:Array Bool) (a:Act) (w:vw):Prop :=
 wpAnyH P .any ops Q (R w) fuel za a w
theorem qN {id:Nat} {a:Act} {w:vw} {l:List Oper} (R:vw -> vw -> Prop) (hm:P.follows .mixedOrders=true) (h:yn P l.toArray Q R l.length (List.replicate l.length false).toArray a w.drew):(Code.region id l.toArray true).wp P Q a w:=by
 refine wp_region_held (S:=R w.drew) hm ?_;have e:Array.replicate l.toArray.size false=(List.replicate l.length false).toArray:=by simp
 rw [e]
 simpa [yn] using h
theorem aX {fuel:Nat} {za:Array Bool} {a:Act} {w:vw} (hr:Region.ready .any ops za=[]) (h:Q .normal a w):yn P ops Q R fuel za a w:=wpAnyH_done hr h fuel
end
section
variable {P:Program} {l:List Oper} {Q:Exit -> Act -> vw -> Prop} {R:vw -> vw -> Prop}
theorem xm (i:Nat) {v:vx} {fuel:Nat} {za:Array Bool} {a:Act} {w:vw} (M:ie R) (ta:i<l.length)
  (hs:Region.noSelect l.toArray=true) (hf:Region.free .any l.toArray za i=true) (hr:(Region.ready .any l.toArray za).contains i=true)
  (hQ:∀ c a w,Q (.panic c) (a.put l[i].dst v) w -> Q (.panic c) a w)
  (hy:(Region.wanted l[i] (yielded l.toArray a.tmps)=true /\ ∀ w',R w w' -> (execOp a.eval l[i]).run P w'= .ok (.value v) w') \/ (Region.wanted l[i] (yielded l.toArray a.tmps)=false /\ v=undef))
  (h:yn P l.toArray Q R fuel (za.setIfInBounds i true) (a.put l[i].dst v) w):yn P l.toArray Q R (fuel+1) za a w :=
 wpAnyH_take (i:=i) (oi:=l[i]) (by simp [ta]) hs hf hr hQ hy (M.refl w) h
theorem zAZ (i:Nat) {fuel:Nat} {za:Array Bool} {a:Act} {w:vw} (M:ie R) (ta:i<l.length) (hr:Region.ready .any l.toArray za=[i])
  (hw:Region.wanted l[i] (yielded l.toArray a.tmps)=true)
  (h:l[i].wp P a w (fun a' w'=>R w w' /\ yn P l.toArray Q R fuel (za.setIfInBounds i true) a' w') Q):yn P l.toArray Q R (fuel+1) za a w:=by
 refine ⟨fun h0=>absurd (hr ▸ h0) (by simp),fun j hj=>?_⟩
 rw [hr,Fo] at hj;subst hj;unfold wpOp;have hi:l.toArray[j]?=vE l[j]:=by simp [ta]
 simp only [hi,hw,if_true];exact .inl (Oper.wp_mono (fun a' w' h'=>⟨h'.1,kR (fun w2 h2=>M.trans _ _ _ h'.1 h2) _ _ _ _ h'.2⟩) h)
theorem zAY (i:Nat) {f:FuncId} {vals:Array vx} {fuel:Nat} {za:Array Bool} {a:Act} {w:vw} (M:ie R) (ta:i<l.length) (hr:Region.ready .any l.toArray za=[i])
  (hw:Region.wanted l[i] (yielded l.toArray a.tmps)=true)
  (h:vB P f vals w fun e w'=>∃ v,e=vl v /\ R w w' /\ yn P l.toArray Q R fuel (za.setIfInBounds i true) (a.put l[i].dst v) w')
  (Uc:∀ w,(execOp a.eval l[i]).run P w= .ok (.enter f vals) w):yn P l.toArray Q R (fuel+1) za a w:=by
 refine zAZ i M ta hr hw ?_;unfold Oper.wp;rw [Uc w];refine Calls.mono h ?_;rintro e w' ⟨v,rfl,h1,h2⟩;exact ⟨h1,h2⟩
end
section
variable {P:Program} {l:List Oper} {Q:Exit -> Act -> vw -> Prop} {R:vw -> vw -> Prop}
def wpS (P:Program) (l:List Oper) (Q:Exit -> Act -> vw -> Prop) (R:vw -> vw -> Prop) (i:Nat) (fuel:Nat) (za:Array Bool) (a:Act) (w:vw):Prop :=
 ∃ (h:i<l.length),Region.wanted l[i] (yielded l.toArray a.tmps)=true /\ l[i].wp P a w (fun a' w'=>R w w' /\ yn P l.toArray Q R fuel (za.setIfInBounds i true) a' w') Q
theorem wpS_op {i fuel:Nat} {za:Array Bool} {a:Act} {w:vw} (M:ie R) (h:wpS P l Q R i fuel za a w):wpOp P l.toArray Q i (fun a' w'=>R w w' /\ wpAnyH P .any l.toArray Q (R w) fuel (za.setIfInBounds i true) a' w') a w:=by
 obtain ⟨ta,hw,h⟩:=h;unfold wpOp;have hi:l.toArray[i]?=vE l[i]:=by simp [ta]
 simp only [hi,hw,if_true];exact .inl (Oper.wp_mono (fun a' w' h'=>⟨h'.1,kR (fun w2 h2=>M.trans _ _ _ h'.1 h2) _ _ _ _ h'.2⟩) h)
theorem zIr {i:Nat} {f:FuncId} {vals:Array vx} {fuel:Nat} {za:Array Bool} {a:Act} {w:vw} (ta:i<l.length) (hw:Region.wanted l[i] (yielded l.toArray a.tmps)=true)
  (h:vB P f vals w fun e w'=>∃ v,e=vl v /\ R w w' /\ yn P l.toArray Q R fuel (za.setIfInBounds i true) (a.put l[i].dst v) w')
  (Uc:∀ w,(execOp a.eval l[i]).run P w= .ok (.enter f vals) w):wpS P l Q R i fuel za a w:=by
 refine ⟨ta,hw,?_⟩;unfold Oper.wp;rw [Uc w];refine Calls.mono h ?_;rintro e w' ⟨v,rfl,h1,h2⟩;exact ⟨h1,h2⟩
end
theorem It {P:Program} {o:Oper} {ops:Array Oper} {a:Act} {v:vx} {R:vw -> vw -> Prop} {w:vw} (hw:Region.wanted o (yielded ops a.tmps)=true) (h:∀ w',R w w' -> (execOp a.eval o).run P w'= .ok (.value v) w') :
  (Region.wanted o (yielded ops a.tmps)=true /\ ∀ w',R w w' -> (execOp a.eval o).run P w'= .ok (.value v) w') \/ (Region.wanted o (yielded ops a.tmps)=false /\ v=undef):=.inl ⟨hw,h⟩
theorem u9 {P:Program} {w:vw} {t e:vz} {size bytes:Nat} {z:vx} (E:zq P t e size bytes z) (A:Option vy) (n c h:Nat) (hc:h <= c) :
  (Instr.slice t (ve A n c) vD (vE (vd vq h)) vD).run P w= .ok (ve A h c) w:=by
 obtain ⟨ht,⟨i,hi,hz,hs,Wl⟩,JI,ib⟩:=E;have he:P.elem t=e:=by simp [Program.elem,ht]
 rw [run_slice_h (P:=P) w t A n c (by rw [he];exact ht) vq (h:Int) (by omega) (by omega),he]
 cases A <;> simp [sizeOf,typeInfo,hi,sliced,Result.andThen,Addr.add]
def ZC (l:List Oper) (hs:List Nat):List Nat -> Array Bool -> Bool
 | [],za=>(Region.ready .any l.toArray za).isEmpty
 | i :: rest,za=>decide (i<l.length)&&Region.free .any l.toArray za i&&(Region.ready .any l.toArray za).contains i &&
   (!hs.contains i||Region.ready .any l.toArray za == [i])&&ZC l hs rest (za.setIfInBounds i true)
def uq (P:Program) (l:List Oper) (hs:List Nat) (Q:Exit -> Act -> vw -> Prop) (R:vw -> vw -> Prop) (order:List Nat) (za:Array Bool) (a:Act) (w:vw):Prop :=
 Region.noSelect l.toArray=true -> ZC l hs order za=true -> yn P l.toArray Q R order.length za a w
section
variable {P:Program} {l:List Oper} {hs:List Nat} {Q:Exit -> Act -> vw -> Prop} {R:vw -> vw -> Prop} {rest:List Nat} {i:Nat} {o:Oper} {za:Array Bool} {a:Act} {w:vw}
theorem zd {id:Nat} (R:vw -> vw -> Prop) (hs order:List Nat) (hm:P.follows .mixedOrders=true) (Xa:(Region.noSelect l.toArray&&order.length == l.length&&ZC l hs order (List.replicate l.length false).toArray)=true)
  (h:uq P l hs Q R order (List.replicate l.length false).toArray a w.drew):(Code.region id l.toArray true).wp P Q a w:=by
 simp only [mc,qi] at Xa;refine qN R hm ?_;rw [<- Xa.1.2];have:=h Xa.1.1 Xa.2
 rwa [Xa.1.2] at this |-
theorem Kw (M:ie R) {order:List Nat} (h:∀ W,R w W -> uq P l hs Q R order za a W):uq P l hs Q R order za a w:=h w (M.refl w)
theorem Jc (h:Q .normal a w):uq P l hs Q R [] za a w:=fun _ Xa=>aX (by simpa [ZC] using Xa) h
theorem dV (h:ZC l hs (i :: rest) za=true):i<l.length /\ Region.free .any l.toArray za i=true /\ (Region.ready .any l.toArray za).contains i=true /\
  (hs.contains i=true -> Region.ready .any l.toArray za=[i]) /\ ZC l hs rest (za.setIfInBounds i true)=true:=by
 unfold ZC at h;simp only [mc,Bool.or_eq_true,Xk,Oo,qi] at h;obtain ⟨⟨⟨⟨h1,h2⟩,h3⟩,h4⟩,h5⟩:=h;refine ⟨h1,h2,h3,fun h6=>?_,h5⟩
 rcases h4 with h4 | h4
 ·rw [h6] at h4;cases h4
 ·exact h4
theorem LB {h:i<l.length} (ho:l[i]?=vE o):l[i]=o:=by
 rw [Xb h] at ho
 injection ho
theorem uG {v:vx} (M:ie R) (ho:l[i]?=vE o) (hw:Region.wanted o (yielded l.toArray a.tmps)=true) (hQ:∀ c a w,Q (.panic c) (a.put o.dst v) w -> Q (.panic c) a w)
  (Uc:∀ w',R w w' -> (execOp a.eval o).run P w'= .ok (.value v) w') (h:uq P l hs Q R rest (za.setIfInBounds i true) (a.put o.dst v) w):uq P l hs Q R (i :: rest) za a w:=by
 intro hn Xa;obtain ⟨h1,h2,h3,-,h5⟩:=dV Xa;have e:=LB (h:=h1) ho;subst e;exact xm i M h1 hn h2 h3 hQ (.inl ⟨hw,Uc⟩) (h hn h5)
theorem xG (M:ie R) (ho:l[i]?=vE o) (hw:Region.wanted o (yielded l.toArray a.tmps)=false) (hQ:∀ c a w,Q (.panic c) (a.put o.dst undef) w -> Q (.panic c) a w)
  (h:uq P l hs Q R rest (za.setIfInBounds i true) (a.put o.dst undef) w):uq P l hs Q R (i :: rest) za a w:=by
 intro hn Xa;obtain ⟨h1,h2,h3,-,h5⟩:=dV Xa;have e:=LB (h:=h1) ho;subst e;exact xm i M h1 hn h2 h3 hQ (.inr ⟨hw,rfl⟩) (h hn h5)
theorem ef (M:ie R) (hh:hs.contains i=true) (ho:l[i]?=vE o) (hw:Region.wanted o (yielded l.toArray a.tmps)=true)
  (h:o.wp P a w (fun a' w'=>R w w' /\ uq P l hs Q R rest (za.setIfInBounds i true) a' w') Q):uq P l hs Q R (i :: rest) za a w:=by
 intro hn Xa;obtain ⟨h1,-,-,h4,h5⟩:=dV Xa;have e:=LB (h:=h1) ho;subst e;exact zAZ i M h1 (h4 hh) hw (Oper.wp_mono (fun a' w' h'=>⟨h'.1,h'.2 hn h5⟩) h)
theorem Bc {f:FuncId} {vals:Array vx} (M:ie R) (hh:hs.contains i=true) (ho:l[i]?=vE o) (hw:Region.wanted o (yielded l.toArray a.tmps)=true)
  (Uc:∀ w,(execOp a.eval o).run P w= .ok (.enter f vals) w)
  (h:vB P f vals w fun e w'=>∃ v,e=vl v /\ R w w' /\ uq P l hs Q R rest (za.setIfInBounds i true) (a.put o.dst v) w'):uq P l hs Q R (i :: rest) za a w:=by
 refine ef M hh ho hw ?_;unfold Oper.wp;rw [Uc w];refine Calls.mono h ?_;rintro e w' ⟨v,rfl,h1,h2⟩;exact ⟨h1,h2⟩
end
theorem oK {w w':vw} (h:Ub w.drew w'):∀ b o,b<w.1.size -> w'.cell? ⟨b,o,vD⟩=w.cell? ⟨b,o,vD⟩:=fun b o hb=>Below.cell h (p:=⟨b,o,vD⟩) hb
theorem N6 {g:Nat} {w w':vw} (h:Km g w w'):∀ b o,b<w.1.size -> b≠g -> w'.cell? ⟨b,o,vD⟩=w.cell? ⟨b,o,vD⟩:=fun b o hb Ta=>by
 have:=h.block b hb (fun e=>Ta (by injection e))
 simp only [World.cell?,this]
theorem zE0 {g:Nat} {w w':vw} (h:Km g w.drew w'):∀ b o,b<w.1.size -> b≠g -> w'.cell? ⟨b,o,vD⟩=w.cell? ⟨b,o,vD⟩:=fun b o hb Ta=>N6 h b o hb Ta
def tL (g i:Nat) (w w':vw):Prop:=w.grownBy w' (vE g) /\ ∀ t cs,Blk w g t cs -> ∃ v,Blk w' g t (cs.setIfInBounds i v)
theorem xr (g i:Nat):ie (tL g i):=by
 refine ⟨fun w=>⟨Ee w _,fun t cs h=>⟨cs.getD i undef,?_⟩⟩,fun a b c h k=>⟨Pq h.1 k.1 fun _ e=>.inl e,fun t cs hb=>?_⟩⟩
 ·have e:cs.setIfInBounds i (cs.getD i undef)=cs:=by
   apply Array.ext
   ·simp
   ·intro j h1 h2
    rw [Array.getElem_setIfInBounds]
    ·split
     ·subst_vars
      simp [h2]
     ·rfl
  rw [e];exact h
 ·obtain ⟨v,hv⟩:=h.2 t cs hb
  obtain ⟨u,hu⟩:=k.2 t _ hv;exact ⟨u,by simpa using hu⟩
theorem L6 {g i:Nat} (w:vw) (v:vx):tL g i w (w.setCell ⟨g,i,vD⟩ v):=⟨Wg (p:=⟨g,i,vD⟩) (Ee w _) (.inl rfl) v,fun _ _ hb=>⟨v,hb.set_ i v⟩⟩
theorem J6 {g i:Nat} {w w':vw} (h:tL g i w.drew w'):∀ b o,b<w.1.size -> b≠g -> w'.cell? ⟨b,o,vD⟩=w.cell? ⟨b,o,vD⟩:=fun b o hb Ta=>N6 (w:=w.drew) h.1 b o hb Ta
theorem K6 {g i:Nat} {w w':vw} {t:vz} {cs:Array vx} (h:tL g i w.drew w') (k:Blk w g t cs):∀ j,j≠i -> w'.cell? ⟨g,j,vD⟩=cs[j]?:=fun j hj=>by
 obtain ⟨v,hv⟩:=h.2 t cs k;rw [hv.cell j,Array.getElem?_setIfInBounds,ya (fun e=>hj e.symm)]
theorem Tf {w c:vw} (h:Hid (c=w.drew)):vA w.1.size w c:=by rw [h.out];exact (Ca _ _).drew
def Imp (a b:Prop):Prop:=a -> b
theorem Imp.via {a b c:Prop} (f:b -> c) (h:Imp a b):Imp a c:=fun x=>f (h x)
theorem Imp.rfl' {a:Prop}:Imp a a:=id
theorem zPU {a b:Prop} (h:a) (s:Imp a b:=by
 (try simp only [vG,zLa,zLb,zLc])
 exact Imp.rfl'):b:=s h
theorem oo {a b:Prop} (h:a) (s:Imp a b:=by
 (repeat ((first | (apply Imp.via (xG (Re _) rfl rfl (fun _ _ _ h=>h))) | (apply Imp.via (uG (v:=?_) (Re _) rfl rfl (fun _ _ _ h=>h) ?hr);case hr=>(intro w' hR;(first | have Rn:=zE0 ((Re _).trans _ _ _ ia hR) | skip);go_simp;try with_reducible rfl)));simp only [vG,zLa,zLb,zLc]))
 exact Imp.rfl'):b:=s h
theorem Qb {a b:Prop} (h:a) (s:Imp a b:=by
 (repeat ((first | (apply Imp.via (xG (ra) rfl rfl (fun _ _ _ h=>h))) | (apply Imp.via (uG (v:=?_) (ra) rfl rfl (fun _ _ _ h=>h) ?hr);case hr=>(intro w' hR;(first | have Rn:=oK ((ra).trans _ _ _ ia hR) | skip);go_simp;try with_reducible rfl)));simp only [vG,zLa,zLb,zLc]))
 exact Imp.rfl'):b:=s h
def Nd (bars:List Nat) (za:Array Bool):Bool:=bars.any fun b=>za.getD b true
theorem XF {bars:List Nat} {za:Array Bool} {j:Nat} (h:j ∉ bars):Nd bars (za.setIfInBounds j true)=Nd bars za:=by
 unfold Nd
 induction bars with
 | nil=>rfl
 | cons b r ih =>
  simp only [Dh,not_or] at h;simp only [List.any_cons];rw [getD_set_ne true h.1,ih h.2]
section
variable {P:Program} {ops:Array Oper} {Q:Exit -> Act -> vw -> Prop} {bars:List Nat} {S:vw -> Prop}
def GD (P:Program) (ops:Array Oper) (Q:Exit -> Act -> vw -> Prop) (bars:List Nat) (S:vw -> Prop):Nat -> Array Bool -> Act -> vw -> Prop
 | 0,za,a,w=>Region.ready .any ops za=[] /\ Q .normal a w
 | fuel+1,za,a,w =>
  (Region.ready .any ops za=[] -> Q .normal a w) /\
  ∀ i∈Region.ready .any ops za,wpOp P ops Q i (fun a' w'=>(Nd bars (za.setIfInBounds i true)=false -> S w') /\ GD P ops Q bars S fuel (za.setIfInBounds i true) a' w') a w
theorem YW:∀ (fuel:Nat) (za:Array Bool) (a:Act) (w:vw),GD P ops Q bars S fuel za a w -> wpAny P .any ops Q fuel za a w
 | 0,_,_,_,h=>h
 | fuel+1,_,_,_,h=>⟨h.1,fun i hi=>wpOp_mono (fun a' w' h'=>YW fuel _ a' w' h'.2) (h.2 i hi)⟩
theorem XW {S':vw -> Prop} (hS:∀ w,S' w -> S w):∀ (fuel:Nat) (za:Array Bool) (a:Act) (w:vw),GD P ops Q bars S' fuel za a w -> GD P ops Q bars S fuel za a w
 | 0,_,_,_,h=>h
 | fuel+1,_,_,_,h=>⟨h.1,fun i hi=>wpOp_mono (fun a' w' h'=>⟨fun hp=>hS _ (h'.1 hp),XW hS fuel _ a' w' h'.2⟩) (h.2 i hi)⟩
theorem PM {za:Array Bool} {i:Nat} (h:Nd bars za=true):Nd bars (za.setIfInBounds i true)=true:=by
 unfold Nd at *;rw [List.any_eq_true] at *;obtain ⟨b,hb,h1⟩:=h;refine ⟨b,hb,?_⟩;by_cases e:i=b
 ·subst e
  rcases Sg i za.size with h2 | h2
  ·simp [h2]
  ·simp [Nat.not_lt.2 h2]
 ·rw [getD_set_ne true e];exact h1
theorem WW {S':vw -> Prop}:∀ (fuel:Nat) (za:Array Bool) (a:Act) (w:vw),Nd bars za=true -> GD P ops Q bars S' fuel za a w -> GD P ops Q bars S fuel za a w
 | 0,_,_,_,_,h=>h
 | fuel+1,_,_,_,hp,h=>⟨h.1,fun i hi=>wpOp_mono (fun a' w' h'=>⟨fun my=>(by rw [PM hp] at my;cases my),WW fuel _ a' w' (PM hp) h'.2⟩) (h.2 i hi)⟩
theorem xJ {T:vw -> Prop} {i:Nat} {oi:Oper} {v:vx} (hi:ops[i]?=vE oi) (Qf:∀ (j:Nat) (o:Oper) cs b,ops[j]?=vE o -> o.op≠.select cs b)
  (hQ:∀ c a w,Q (.panic c) (a.put oi.dst v) w -> Q (.panic c) a w) (hib:i ∉ bars)
  (hT:(∀ w,T w) \/ ((∀ w,S w -> T w) /\ ∀ b∈bars,∀ ob,ops[b]?=vE ob -> ∃ e∈ob.after,Region.binds .any e=true /\ e.on=i)) :
  ∀ (fuel:Nat) (za:Array Bool) (a:Act) (w:vw),((∀ w,T w) \/ Nd bars za=false) ->
   (∀ j oj,ops[j]?=vE oj -> j≠i -> za.getD j true=false -> (∀ e∈oj.after,Region.binds .any e=true -> e.on≠i) -> oi.apart ops oj=true) ->
   i∈Region.ready .any ops za -> YieldsIf P ops T oi v a -> T w -> (Nd bars za=false -> S w) ->
   GD P ops Q bars S fuel (za.setIfInBounds i true) (a.put oi.dst v) w -> GD P ops Q bars S (fuel+1) za a w:=by
 intro fuel
 induction fuel with
 | zero =>
  intro za a w Xe _ hr hy hTw hS H;refine ⟨fun h=>(by rw [h] at hr;cases hr),fun j hj=>?_⟩
  by_cases Xh:j=i
  ·subst Xh;exact hy.wpOp hi hTw ⟨fun hp=>hS (by rwa [XF hib] at hp),H⟩
  ·have:=ready_mono hj Xh
   rw [H.1] at this;cases this
 | succ fuel ih =>
  intro za a w Xe ZE hr hy hTw hS H;refine ⟨fun h=>(by rw [h] at hr;cases hr),fun j hj=>?_⟩
  by_cases Xh:j=i
  ·subst Xh;exact hy.wpOp hi hTw ⟨fun hp=>hS (by rwa [XF hib] at hp),H⟩
  ·have h1:=H.2 j (ready_mono hj Xh)
   obtain ⟨eF,oj,Zh,ui⟩:=mem_ready.1 hj;have tI:∀ e∈oj.after,Region.binds .any e=true -> e.on≠i:=fun e he hb heq=>by
    have h1:=ui e he hb;have h0:=(mem_ready.1 hr).1;rw [heq] at h1;rcases Sg i za.size with h' | h'
    ·simp [h'] at h0 h1;rw [h0] at h1;cases h1
    ·simp [Array.getElem?_eq_none h'] at h1
   have h2:=wpOp_putIf Zh (ZE j oj Zh Xh eF tI) (fun cs b=>Qf i oi cs b hi) (fun cs b=>Qf j oj cs b Zh) hQ hy h1
   have iM:∀ k ok,ops[k]?=vE ok -> k≠i -> (za.setIfInBounds j true).getD k true=false ->
     (∀ e∈ok.after,Region.binds .any e=true -> e.on≠i) -> oi.apart ops ok=true:=fun k ok hk hki AF Du=>by
    refine ZE k ok hk hki ?_ Du;by_cases dF:j=k
    ·subst dF;exact eF
    ·rw [getD_set_ne true dF] at AF;exact AF
   have dq:Nd bars ((za.setIfInBounds i true).setIfInBounds j true)=Nd bars (za.setIfInBounds j true):=by
    rw [Array.setIfInBounds_comm _ _ (Ne.symm Xh),XF hib]
   refine wpOp_mono (fun a' w' h3=>?_) h2
   have KE:Nd bars (za.setIfInBounds j true)=false -> S w':=fun hp=>h3.2.1 (by rw [dq];exact hp)
   have TZ:((∀ w,T w) \/ Nd bars (za.setIfInBounds j true)=false) /\ T w':=by
    rcases hT with hT | ⟨hST,FT⟩
    ·exact ⟨.inl hT,hT w'⟩
    ·rcases Xe with Xe | Xe
     ·exact ⟨.inl Xe,Xe w'⟩
     ·have hjb:j ∉ bars:=fun hb=>by
       obtain ⟨e,he,QE,hei⟩:=FT j hb oj Zh;exact tI e he QE hei
      have my:Nd bars (za.setIfInBounds j true)=false:=by rw [XF hjb];exact Xe
      exact ⟨.inr my,hST _ (KE my)⟩
   refine ⟨KE,ih (za.setIfInBounds j true) a' w' TZ.1 iM (ready_mono hr (Ne.symm Xh)) h3.1 TZ.2 KE ?_⟩;rw [Array.setIfInBounds_comm _ _ Xh];exact h3.2.2
end
def wpB (P:Program) (ops:Array Oper) (Q:Exit -> Act -> vw -> Prop) (bars:List Nat) (R:vw -> vw -> Prop) (fuel:Nat) (za:Array Bool) (a:Act) (w:vw):Prop :=
 GD P ops Q bars (R w) fuel za a w
def aL (l:List Oper) (b i:Nat):Bool:=match l[b]? with | some o=>o.after.any fun e=>Region.binds .any e&&e.on == i | none=>true
def Ey (l:List Oper) (hs bars:List Nat):List Nat -> Array Bool -> Bool
 | [],za=>(Region.ready .any l.toArray za).isEmpty
 | i :: rest,za=>decide (i<l.length)&&(Region.ready .any l.toArray za).contains i &&
   (if hs.contains i then Region.ready .any l.toArray za == [i] else Region.free .any l.toArray za i&&!bars.contains i&&(Nd bars za||bars.all fun b=>aL l b i))&&Ey l hs bars rest (za.setIfInBounds i true)
def Lw (P:Program) (l:List Oper) (hs bars:List Nat) (Q:Exit -> Act -> vw -> Prop) (R:vw -> vw -> Prop) (order:List Nat) (za:Array Bool) (a:Act) (w:vw):Prop :=
 Region.noSelect l.toArray=true -> Ey l hs bars order za=true -> wpB P l.toArray Q bars R order.length za a w
section
variable {P:Program} {l:List Oper} {hs bars:List Nat} {Q:Exit -> Act -> vw -> Prop} {R:vw -> vw -> Prop} {rest:List Nat} {i:Nat} {o:Oper} {za:Array Bool} {a:Act} {w:vw}
theorem NA {id:Nat} (R:vw -> vw -> Prop) (hs bars order:List Nat) (hm:P.follows .mixedOrders=true) (Xa:(Region.noSelect l.toArray&&order.length == l.length&&Ey l hs bars order (List.replicate l.length false).toArray)=true)
  (h:Lw P l hs bars Q R order (List.replicate l.length false).toArray a w.drew):(Code.region id l.toArray true).wp P Q a w:=by
 simp only [mc,qi] at Xa;refine wp_region_any hm (YW (bars:=bars) (S:=R w.drew) _ _ _ _ ?_);have h2:=h Xa.1.1 Xa.2;have e:Array.replicate l.toArray.size false=(List.replicate l.length false).toArray:=by simp
 rw [Xa.1.2] at h2;rw [e]
 simpa [wpB] using h2
theorem QA (M:ie R) {order:List Nat} (h:∀ W,Hid (W=w) -> R w W -> Lw P l hs bars Q R order za a W):Lw P l hs bars Q R order za a w:=h w rfl (M.refl w)
theorem OA (h:Q .normal a w):Lw P l hs bars Q R [] za a w:=fun _ Xa=>⟨by simpa [Ey] using Xa,h⟩
theorem AK (h:Ey l hs bars (i :: rest) za=true):i<l.length /\ (Region.ready .any l.toArray za).contains i=true /\
  (hs.contains i=true -> Region.ready .any l.toArray za=[i]) /\
  (hs.contains i=false -> Region.free .any l.toArray za i=true /\ i ∉ bars /\ (Nd bars za=true \/ ∀ b∈bars,aL l b i=true)) /\ Ey l hs bars rest (za.setIfInBounds i true)=true:=by
 unfold Ey at h;simp only [mc,Oo] at h;obtain ⟨⟨⟨h1,h2⟩,h3⟩,h4⟩:=h;refine ⟨h1,h2,fun h6=>?_,fun h6=>?_,h4⟩
 ·rw [Na h6] at h3
  simpa using h3
 ·rw [ya (by rw [h6];exact Bool.noConfusion)] at h3
  simp only [mc,Xk,Bool.or_eq_true,fe] at h3;refine ⟨h3.1.1,fun hm=>?_,h3.2⟩
  have:=h3.1.2;simp [hm] at this
theorem UW {b:Nat} {ob:Oper} (hb:l.toArray[b]?=vE ob) (h:aL l b i=true):∃ e∈ob.after,Region.binds .any e=true /\ e.on=i:=by
 unfold aL at h;rw [Ln] at hb;rw [hb] at h;simp only [Array.any_eq_true] at h;obtain ⟨k,hk,he⟩:=h;simp only [mc,qi] at he;exact ⟨ob.after[k],Array.getElem_mem hk,he.1,he.2⟩
theorem bX {v:vx} (M:ie R) (hh:hs.contains i=false) (ho:l[i]?=vE o) (hw:Region.wanted o (yielded l.toArray a.tmps)=true) (hQ:∀ c a w,Q (.panic c) (a.put o.dst v) w -> Q (.panic c) a w)
  (Uc:∀ w',(Nd bars za=false -> R w w') -> (execOp a.eval o).run P w'= .ok (.value v) w') (h:Lw P l hs bars Q R rest (za.setIfInBounds i true) (a.put o.dst v) w):Lw P l hs bars Q R (i :: rest) za a w:=by
 intro hn Xa;obtain ⟨h1,h2,-,h4,h5⟩:=AK Xa;obtain ⟨f1,f2,f3⟩:=h4 hh;have Bj:l.toArray[i]?=vE o:=by rw [Ln];exact ho
 cases hp:Nd bars za
 ·refine xJ (T:=R w) Bj (Uu hn) hQ f2 (.inr ⟨fun _ h=>h,fun b hb ob hob=>UW hob ?_⟩) _ _ _ _ (.inr hp) (Region.free_spec Bj f1) (by simpa using h2) (.inl ⟨hw,fun w' hR=>Uc w' fun _=>hR⟩) (M.refl w) (fun _=>M.refl w) (h hn h5)
  rcases f3 with f3 | f3
  ·rw [hp] at f3;cases f3
  ·exact f3 b hb
 ·exact xJ (T:=fun _=>True) Bj (Uu hn) hQ f2 (.inl fun _=>trivial) _ _ _ _ (.inl fun _=>trivial) (Region.free_spec Bj f1) (by simpa using h2) (.inl ⟨hw,fun w' _=>Uc w' fun h=>by rw [hp] at h;cases h⟩) trivial (fun _=>M.refl w) (h hn h5)
theorem cX (M:ie R) (hh:hs.contains i=false) (ho:l[i]?=vE o) (hw:Region.wanted o (yielded l.toArray a.tmps)=false) (hQ:∀ c a w,Q (.panic c) (a.put o.dst undef) w -> Q (.panic c) a w)
  (h:Lw P l hs bars Q R rest (za.setIfInBounds i true) (a.put o.dst undef) w):Lw P l hs bars Q R (i :: rest) za a w:=by
 intro hn Xa;obtain ⟨h1,h2,-,h4,h5⟩:=AK Xa;obtain ⟨f1,f2,f3⟩:=h4 hh;have Bj:l.toArray[i]?=vE o:=by rw [Ln];exact ho
 exact xJ (T:=fun _=>True) Bj (Uu hn) hQ f2 (.inl fun _=>trivial) _ _ _ _ (.inl fun _=>trivial) (Region.free_spec Bj f1) (by simpa using h2) (.inr ⟨hw,rfl⟩) trivial (fun _=>M.refl w) (h hn h5)
theorem qo {a b:Prop} (h:a) (s:Imp a b:=by
 (repeat ((first | (apply Imp.via (cX (ra) rfl rfl rfl (fun _ _ _ h=>h))) | (apply Imp.via (bX (v:=?_) (ra) rfl rfl rfl (fun _ _ _ h=>h) ?hr);case hr=>(intro w' hR;(first | have Rn:=oK ((ra).trans _ _ _ ia (hR rfl)) | skip);clear hR;go_simp;try with_reducible rfl)));simp only [vG,zLa,zLb,zLc]))
 exact Imp.rfl'):b:=s h
theorem Ij (M:ie R) (hh:hs.contains i=true) (ho:l[i]?=vE o) (hw:Region.wanted o (yielded l.toArray a.tmps)=true)
  (h:o.wp P a w (fun a' w'=>(Nd bars (za.setIfInBounds i true)=false -> R w w') /\ Lw P l hs bars Q R rest (za.setIfInBounds i true) a' w') Q):Lw P l hs bars Q R (i :: rest) za a w:=by
 intro hn Xa;obtain ⟨h1,h2,h3,-,h5⟩:=AK Xa;have hr:=h3 hh;refine ⟨fun h0=>absurd (hr ▸ h0) (by simp),fun j hj=>?_⟩
 rw [hr,Fo] at hj;subst hj;unfold wpOp;have hi:l.toArray[j]?=vE o:=by rw [Ln];exact ho
 simp only [hi,hw,if_true];refine .inl (Oper.wp_mono (fun a' w' h'=>⟨h'.1,?_⟩) h)
 have hk:=h'.2 hn h5;cases hp:Nd bars (za.setIfInBounds j true)
 ·exact XW (fun w2 h2=>M.trans _ _ _ (h'.1 hp) h2) _ _ _ _ hk
 ·exact WW _ _ _ _ hp hk
theorem Jt {f:FuncId} {vals:Array vx} (M:ie R) (hh:hs.contains i=true) (ho:l[i]?=vE o) (hw:Region.wanted o (yielded l.toArray a.tmps)=true)
  (Uc:∀ w,(execOp a.eval o).run P w= .ok (.enter f vals) w)
  (h:vB P f vals w fun e w'=>∃ v,e=vl v /\ (Nd bars (za.setIfInBounds i true)=false -> R w w') /\ Lw P l hs bars Q R rest (za.setIfInBounds i true) (a.put o.dst v) w'):Lw P l hs bars Q R (i :: rest) za a w:=by
 refine Ij M hh ho hw ?_;unfold Oper.wp;rw [Uc w];refine Calls.mono h ?_;rintro e w' ⟨v,rfl,h1,h2⟩;exact ⟨h1,h2⟩
end
def so (g N:Nat) (w w':vw):Prop:=w'.os=w.os /\ w'.tape=w.tape /\ w'.output=w.output /\ w.1.size <= w'.1.size /\ ∀ b,b<N -> b≠g -> w'.1[b]?=w.1[b]?
theorem Wb (g N:Nat):ie (so g N):=⟨fun _=>⟨rfl,rfl,rfl,zR,fun _ _ _=>rfl⟩,fun _ _ _ h k=>⟨k.1.trans h.1,k.2.1.trans h.2.1,k.2.2.1.trans h.2.2.1,xb h.2.2.2.1 k.2.2.2.1,fun b h1 h2=>(k.2.2.2.2 b h1 h2).trans (h.2.2.2.2 b h1 h2)⟩⟩
theorem CZ {g N:Nat} {w w':vw} (h:so g N w.drew w'):∀ b o,b<N -> b≠g -> w'.cell? ⟨b,o,vD⟩=w.cell? ⟨b,o,vD⟩:=fun b o hb Ta=>by
 have:=h.2.2.2.2 b hb Ta;simp only [World.cell?,this]
 rfl
theorem lX {a b:Prop} (h:a) (s:Imp a b:=by
 (repeat ((first | (apply Imp.via (xG (Wb _ _) rfl rfl (fun _ _ _ h=>h))) | (apply Imp.via (uG (v:=?_) (Wb _ _) rfl rfl (fun _ _ _ h=>h) ?hr);case hr=>(intro w' hR;(first | have Rn:=CZ ((Wb _ _).trans _ _ _ ia hR) | skip);go_simp;try with_reducible rfl)));simp only [vG,zLa,zLb,zLc]))
 exact Imp.rfl'):b:=s h
theorem Fl {a b:Prop} (h:a) (s:Imp a b:=by
 (repeat ((first | (apply Imp.via (cX (Wb _ _) rfl rfl rfl (fun _ _ _ h=>h))) | (apply Imp.via (bX (v:=?_) (Wb _ _) rfl rfl rfl (fun _ _ _ h=>h) ?hr);case hr=>(intro w' hR;(first | have Rn:=CZ ((Wb _ _).trans _ _ _ ia (hR rfl)) | skip);clear hR;go_simp;try with_reducible rfl)));simp only [vG,zLa,zLb,zLc]))
 exact Imp.rfl'):b:=s h
theorem Gk {g N B:Nat} {w w':vw} (h:vA B w w') (hN:N <= B):so g N w w':=⟨h.os,h.tape,h.output,h.size,fun b hb _=>h.block b (by omega)⟩
theorem JB {g N:Nat} {w w':vw} (h:w.grownBy w' (vE g)) (hN:N <= w.1.size):so g N w w':=⟨h.os,h.tape,h.output,h.size,fun b hb Ta=>h.block b (by omega) (fun e=>Ta (Za e))⟩
theorem Px {g N:Nat} {w w':vw} {row:Option Nat} (h:w.grownBy w' row) (hN:N <= w.1.size) (hr:∀ k,row=vE k -> N <= k):so g N w w':=⟨h.os,h.tape,h.output,h.size,fun b hb _=>h.block b (by omega) (fun e=>by have:=hr b e.symm;omega)⟩
theorem AL {B:Nat} {w0 w1 w2:vw} (h1:vA B w0 w1) (h2:vA w1.1.size w1 w2) (hB:B <= w1.1.size:=by omega):vA B w0 w2:=h1.trans (h2.mono hB)
theorem O6 {g:Nat} {w w':vw} (h:vA w.1.size w w'):Km g w w':=Nf (Ee w _) h zR
theorem zBG {w w':vw} {p:vy} {v:vx} (h:vA w.drew.1.size w.drew w') (hc:w.cell? p=vE v):w'.cell? p=vE v:=(Below.cell h (Jf _ _ hc)).trans hc
theorem Eh (w:vw) (t1 t2:vz) (je Lf:Array vx) :
  Blk ((w.alloc (.cells je t1)).alloc (.cells Lf t2)) w.1.size t1 je /\ Blk ((w.alloc (.cells je t1)).alloc (.cells Lf t2)) (w.1.size+1) t2 Lf /\ vA w.1.size w ((w.alloc (.cells je t1)).alloc (.cells Lf t2)) /\ ((w.alloc (.cells je t1)).alloc (.cells Lf t2)).1.size=w.1.size+2:=by
 refine ⟨(Blk.new w t1 je).alloc _,?_,((Ca _ w).alloc zR _).alloc (by simp) _,by simp⟩
 have:=Blk.new (w.alloc (.cells je t1)) t2 Lf
 simpa using this
theorem Sp (w:vw) (t1 t2 t3:vz) (je Lf Pj:Array vx) :
  Blk (((w.alloc (.cells je t1)).alloc (.cells Lf t2)).alloc (.cells Pj t3)) w.1.size t1 je /\ Blk (((w.alloc (.cells je t1)).alloc (.cells Lf t2)).alloc (.cells Pj t3)) (w.1.size+1) t2 Lf /\ Blk (((w.alloc (.cells je t1)).alloc (.cells Lf t2)).alloc (.cells Pj t3)) (w.1.size+1+1) t3 Pj /\
   vA w.1.size w (((w.alloc (.cells je t1)).alloc (.cells Lf t2)).alloc (.cells Pj t3)) /\ (((w.alloc (.cells je t1)).alloc (.cells Lf t2)).alloc (.cells Pj t3)).1.size=w.1.size+3:=by
 obtain ⟨h1,h2,h3,h4⟩:=Eh w t1 t2 je Lf;refine ⟨h1.alloc _,h2.alloc _,?_,h3.alloc h3.size _,by simp⟩
 have:=Blk.new ((w.alloc (.cells je t1)).alloc (.cells Lf t2)) t3 Pj
 rwa [h4] at this
theorem bG {w:vw} {g:Nat} {t:vz} {y0 y1 y2:vx} (k:Blk w g t #[y0,y1,y2]) (x0 x1 x2:vx):Blk (((w.setCell ⟨g,0,vD⟩ x0).setCell ⟨g,1,vD⟩ x1).setCell ⟨g,2,vD⟩ x2) g t #[x0,x1,x2]:=by
 have h:=(((k.set_ 0 x0).set_ 1 x1).set_ 2 x2)
 simpa using h
theorem cG {w:vw} {g:Nat} (x0 x1 x2:vx):w.grownBy (((w.setCell ⟨g,0,vD⟩ x0).setCell ⟨g,1,vD⟩ x1).setCell ⟨g,2,vD⟩ x2) (vE g):=by
 iterate 3 refine Wg ?_ (.inl rfl) _
 exact Ee w _
theorem Rp {g B:Nat} {a w:vw} (h:a.grownBy w (vE g)) (hB:B <= a.1.size) (hg:B <= g):vA B a w:=Es h B hB fun _ e=>by have:=Za e;omega
theorem Ff {g:Nat} {a b c:vw} (h:vA a.1.size a b) (k:b.grownBy c (vE g)) (e:a.1.size <= g:=by omega):vA a.1.size a c:=h.trans (Rp k h.size e)
section
variable {P:Program} {ops:Array Oper} {Q:Exit -> Act -> vw -> Prop} {R:vw -> vw -> Prop}
def PureRun (P:Program) (R:vw -> vw -> Prop) (W:vw) (ρ:Operand -> vx) (o:Oper) (v:vx):Prop :=
 (∀ w,R W w -> (execOp ρ o).run P w= .ok (.value v) w) \/ ∃ f vals,(∀ w,(execOp ρ o).run P w= .ok (.enter f vals) w) /\ ∀ w,R W w -> vB P f vals w fun e w'=>e=vl v /\ R w w'
def PureAt (P:Program) (ops:Array Oper) (R:vw -> vw -> Prop) (W:vw) (o:Oper) (v:vx) (a:Act):Prop :=
 (Region.wanted o (yielded ops a.tmps)=true /\ PureRun P R W a.eval o v) \/ (Region.wanted o (yielded ops a.tmps)=false /\ v=undef)
theorem PureRun.later (M:ie R) {W W':vw} {ρ:Operand -> vx} {o:Oper} {v:vx} (h:PureRun P R W ρ o v) (hR:R W W'):PureRun P R W' ρ o v:=by
 rcases h with h | ⟨f,vals,h1,h2⟩
 ·exact .inl fun w hw=>h w (M.trans _ _ _ hR hw)
 ·exact .inr ⟨f,vals,h1,fun w hw=>h2 w (M.trans _ _ _ hR hw)⟩
theorem PureAt.later (M:ie R) {W W':vw} {o:Oper} {v:vx} {a:Act} (h:PureAt P ops R W o v a) (hR:R W W'):PureAt P ops R W' o v a :=
 h.imp (fun h=>⟨h.1,h.2.later M hR⟩) id
theorem PureAt.same {W:vw} {o:Oper} {v:vx} {a a':Act} (h:PureAt P ops R W o v a) (he:execOp a'.eval o=execOp a.eval o) (hw:Region.wanted o (yielded ops a'.tmps)=Region.wanted o (yielded ops a.tmps)):PureAt P ops R W o v a':=by
 unfold PureAt PureRun at *;rw [he,hw];exact h
theorem PureAt.op {W w:vw} {i:Nat} {o:Oper} {v:vx} {a:Act} {K:Act -> vw -> Prop} (M:ie R) (hi:ops[i]?=vE o) (h:PureAt P ops R W o v a) (hR:R W w) (hK:∀ w',R w w' -> K (a.put o.dst v) w'):wpOp P ops Q i K a w:=by
 unfold wpOp;simp only [hi];rcases h with ⟨hw,h | ⟨f,vals,h1,h2⟩⟩ | ⟨hw,rfl⟩
 ·simp only [hw,if_true,Oper.wp,h w hR,Oper.upon]
  exact .inl (hK w (M.refl w))
 ·simp only [hw,if_true,Oper.wp,h1 w,Oper.upon]
  refine .inl (Calls.mono (h2 w hR) ?_);rintro e w' ⟨rfl,h3⟩;exact hK w' h3
 ·simp only [hw,Bool.false_eq_true,if_false]
  exact hK w (M.refl w)
theorem zIp {Pi:Act -> Prop} {j:Nat} {oi oj:Oper} {v:vx} (hj:ops[j]?=vE oj) (TB:oi.apart ops oj=true)
  (hsi:∀ cs b,oi.op≠.select cs b) (hsj:∀ cs b,oj.op≠.select cs b)
  (hPi:∀ a a',Pi a -> execOp a'.eval oi=execOp a.eval oi -> Region.wanted oi (yielded ops a'.tmps)=Region.wanted oi (yielded ops a.tmps) -> Pi a')
  (hQ:∀ c a w,Q (.panic c) (a.put oi.dst v) w -> Q (.panic c) a w) {K:Act -> vw -> Prop} {a:Act} {w:vw}
  (hy:Pi a) (h:wpOp P ops Q j K (a.put oi.dst v) w):wpOp P ops Q j (fun a' w'=>Pi a' /\ K (a'.put oi.dst v) w') a w:=by
 obtain ⟨h1,h2,h3⟩:=Oper.apart_spec TB;have keep:∀ u,Pi (a.put oj.dst u):=fun u=>hPi a _ hy (execOp_put oi hsi a oj.dst u h3) (wanted_put oi a oj.dst u h3)
 unfold wpOp at *;simp only [hj] at *;rw [wanted_put oj a oi.dst v h1] at h;split
 ·rename_i hw
  simp only [hw,if_true] at h;rcases h with h | ⟨SZ,hlets⟩
  case inr=>exact .inr ⟨by unfold Oper.asks at *;rw [execOp_put oj hsj a oi.dst v h1] at SZ;exact SZ,hlets⟩
  refine .inl ?_;unfold Oper.wp at *;rw [execOp_put oj hsj a oi.dst v h1] at h;generalize (execOp a.eval oj).run P w=r at *;rcases r with ⟨n,w'⟩ | ⟨x,w'⟩
  ·cases n <;> simp only [Oper.upon] at h |-
   case value u=>exact ⟨keep u,by rw [<- Act.put_comm a v u h2];exact h⟩
   case skip=>exact ⟨keep _,by rw [<- Act.put_comm a v undef h2];exact h⟩
   case defer d =>
    refine ⟨hPi _ _ (hPi a { a with defers:=d :: a.defers } hy rfl rfl) (execOp_put oi hsi _ oj.dst _ h3) (wanted_put oi _ oj.dst _ h3),?_⟩
    rw [<- Act.put_comm _ v undef h2,<- Act.put_defers];exact h
   case enter f args =>
    refine Calls.mono h fun e Dl he=>?_
    rcases e with u | c | _
    ·exact ⟨keep u,by rw [<- Act.put_comm a v u h2];exact he⟩
    ·exact hQ _ _ _ he
    ·exact he
   case row row args=>exact Rows.mono h fun u Dl he=>⟨keep u,by rw [<- Act.put_comm a v u h2];exact he⟩
  ·cases x <;> simp only [Oper.upon] at h |-
   case panic u=>exact hQ _ _ _ h
 ·rename_i hw
  simp only [hw] at h;exact ⟨keep _,by rw [<- Act.put_comm a v undef h2];exact h⟩
def May (bars:List Nat) (R:vw -> vw -> Prop) (za:Array Bool) (w w1:vw):Prop:=if Nd bars za=true then w1=w else R w w1
theorem May.refl (M:ie R) (bars:List Nat) (za:Array Bool) (w:vw):May bars R za w w:=by
 unfold May;split
 ·rfl
 ·exact M.refl w
theorem May.of {bars:List Nat} {za:Array Bool} {w w1:vw} (hp:Nd bars za=false) (h:R w w1):May bars R za w w1:=by
 unfold May;rw [ya (by rw [hp];exact Bool.noConfusion)]
 exact h
theorem May.out {bars:List Nat} {za:Array Bool} {w w1:vw} (hp:Nd bars za=false) (h:May bars R za w w1):R w w1:=by
 unfold May at h
 rwa [ya (by rw [hp];exact Bool.noConfusion)] at h
theorem May.eq {bars:List Nat} {za:Array Bool} {w w1:vw} (hp:Nd bars za=true) (h:May bars R za w w1):w1=w:=by
 unfold May at h
 rwa [Na hp] at h
def ID (P:Program) (ops:Array Oper) (Q:Exit -> Act -> vw -> Prop) (bars:List Nat) (R:vw -> vw -> Prop):Nat -> Array Bool -> Act -> vw -> Prop
 | 0,za,a,w=>Region.ready .any ops za=[] /\ ∀ w1,May bars R za w w1 -> Q .normal a w1
 | fuel+1,za,a,w=>∀ w1,May bars R za w w1 -> (Region.ready .any ops za=[] -> Q .normal a w1) /\
   ∀ i∈Region.ready .any ops za,wpOp P ops Q i (fun a' w'=>(Nd bars (za.setIfInBounds i true)=false -> R w1 w') /\ ID P ops Q bars R fuel (za.setIfInBounds i true) a' w') a w1
theorem zAR (M:ie R) {bars:List Nat}:∀ (fuel:Nat) (za:Array Bool) (a:Act) (w w2:vw),Nd bars za=false -> R w w2 -> ID P ops Q bars R fuel za a w -> ID P ops Q bars R fuel za a w2
 | 0,_,_,_,_,hp,hR,h=>⟨h.1,fun w1 h1=>h.2 w1 (.of hp (M.trans _ _ _ hR (h1.out hp)))⟩
 | _+1,_,_,_,_,hp,hR,h=>fun w1 h1=>h w1 (.of hp (M.trans _ _ _ hR (h1.out hp)))
theorem zAO (M:ie R) {bars:List Nat}:∀ (fuel:Nat) (za:Array Bool) (a:Act) (w:vw),ID P ops Q bars R fuel za a w -> wpAny P .any ops Q fuel za a w
 | 0,_,_,w,h=>⟨h.1,h.2 w (.refl M _ _ w)⟩
 | fuel+1,_,_,w,h=>⟨(h w (.refl M _ _ w)).1,fun i hi=>wpOp_mono (fun a' w' h'=>zAO M fuel _ a' w' h'.2) ((h w (.refl M _ _ w)).2 i hi)⟩
theorem zIn (M:ie R) {bars:List Nat} {i:Nat} {oi:Oper} {v:vx} (hi:ops[i]?=vE oi) (Qf:∀ (j:Nat) (o:Oper) cs b,ops[j]?=vE o -> o.op≠.select cs b)
  (hQ:∀ c a w,Q (.panic c) (a.put oi.dst v) w -> Q (.panic c) a w) (hib:i ∉ bars) (FT:∀ b∈bars,∀ ob,ops[b]?=vE ob -> ∃ e∈ob.after,Region.binds .any e=true /\ e.on=i) :
  ∀ (fuel:Nat) (za:Array Bool) (a:Act) (w:vw),Nd bars za=false ->
   (∀ j oj,ops[j]?=vE oj -> j≠i -> za.getD j true=false -> (∀ e∈oj.after,Region.binds .any e=true -> e.on≠i) -> oi.apart ops oj=true) ->
   i∈Region.ready .any ops za -> PureAt P ops R w oi v a -> ID P ops Q bars R fuel (za.setIfInBounds i true) (a.put oi.dst v) w -> ID P ops Q bars R (fuel+1) za a w:=by
 intro fuel
 induction fuel with
 | zero =>
  intro za a w hp _ hr hy H w1 sh;have my:Nd bars (za.setIfInBounds i true)=false:=by rw [XF hib];exact hp
  have TH:=sh.out hp;refine ⟨fun h=>(by rw [h] at hr;cases hr),fun j hj=>?_⟩
  by_cases Xh:j=i
  ·subst Xh
   exact hy.op M hi TH fun w' h'=>⟨fun _=>h',zAR M _ _ _ _ _ my (M.trans _ _ _ TH h') H⟩
  ·have:=ready_mono hj Xh
   rw [H.1] at this;cases this
 | succ fuel ih =>
  intro za a w hp ZE hr hy H w1 sh;have my:Nd bars (za.setIfInBounds i true)=false:=by rw [XF hib];exact hp
  have TH:=sh.out hp;refine ⟨fun h=>(by rw [h] at hr;cases hr),fun j hj=>?_⟩
  by_cases Xh:j=i
  ·subst Xh
   exact hy.op M hi TH fun w' h'=>⟨fun _=>h',zAR M _ _ _ _ _ my (M.trans _ _ _ TH h') H⟩
  ·have h1:=(H w1 (.of my TH)).2 j (ready_mono hj Xh)
   obtain ⟨eF,oj,Zh,ui⟩:=mem_ready.1 hj;have tI:∀ e∈oj.after,Region.binds .any e=true -> e.on≠i:=fun e he hb heq=>by
    have h1:=ui e he hb;have h0:=(mem_ready.1 hr).1;rw [heq] at h1;rcases Sg i za.size with h' | h'
    ·simp [h'] at h0 h1;rw [h0] at h1;cases h1
    ·simp [Array.getElem?_eq_none h'] at h1
   have hjb:j ∉ bars:=fun hb=>by
    obtain ⟨e,he,QE,hei⟩:=FT j hb oj Zh;exact tI e he QE hei
   have hpj:Nd bars (za.setIfInBounds j true)=false:=by rw [XF hjb];exact hp
   have hpij:Nd bars ((za.setIfInBounds i true).setIfInBounds j true)=false:=by rw [XF hjb];exact my
   have h2:=zIp (Pi:=PureAt P ops R w1 oi v) Zh (ZE j oj Zh Xh eF tI) (fun cs b=>Qf i oi cs b hi) (fun cs b=>Qf j oj cs b Zh) (fun _ _ h he hw=>h.same he hw) hQ (hy.later M TH) h1
   have iM:∀ k ok,ops[k]?=vE ok -> k≠i -> (za.setIfInBounds j true).getD k true=false ->
     (∀ e∈ok.after,Region.binds .any e=true -> e.on≠i) -> oi.apart ops ok=true:=fun k ok hk hki AF Du=>by
    refine ZE k ok hk hki ?_ Du;by_cases dF:j=k
    ·subst dF;exact eF
    ·rw [getD_set_ne true dF] at AF;exact AF
   refine wpOp_mono (fun a' w' h3=>?_) h2
   have Jz:=h3.2.1 hpij;refine ⟨fun _=>Jz,ih (za.setIfInBounds j true) a' w' hpj iM (ready_mono hr (Ne.symm Xh)) (h3.1.later M Jz) ?_⟩
   rw [Array.setIfInBounds_comm _ _ Xh];exact h3.2.2
theorem zIo {bars:List Nat} {i:Nat} {oi:Oper} {v:vx} (hi:ops[i]?=vE oi) (Qf:∀ (j:Nat) (o:Oper) cs b,ops[j]?=vE o -> o.op≠.select cs b)
  (hQ:∀ c a w,Q (.panic c) (a.put oi.dst v) w -> Q (.panic c) a w) :
  ∀ (fuel:Nat) (za:Array Bool) (a:Act) (w:vw),Nd bars za=true ->
   (∀ j oj,ops[j]?=vE oj -> j≠i -> za.getD j true=false -> (∀ e∈oj.after,Region.binds .any e=true -> e.on≠i) -> oi.apart ops oj=true) ->
   i∈Region.ready .any ops za -> YieldsIf P ops (fun _=>True) oi v a -> ID P ops Q bars R fuel (za.setIfInBounds i true) (a.put oi.dst v) w -> ID P ops Q bars R (fuel+1) za a w:=by
 intro fuel;have Du:∀ {za:Array Bool} {j:Nat} {w w':vw},Nd bars za=true -> Nd bars (za.setIfInBounds j true)=false -> R w w':=fun h h'=>by
  rw [PM h] at h';cases h'
 induction fuel with
 | zero =>
  intro za a w hp _ hr hy H w1 sh;obtain rfl:=sh.eq hp;refine ⟨fun h=>(by rw [h] at hr;cases hr),fun j hj=>?_⟩
  by_cases Xh:j=i
  ·subst Xh
   exact hy.wpOp hi trivial ⟨Du hp,H⟩
  ·have:=ready_mono hj Xh
   rw [H.1] at this;cases this
 | succ fuel ih =>
  intro za a w hp ZE hr hy H w1 sh;obtain rfl:=sh.eq hp;refine ⟨fun h=>(by rw [h] at hr;cases hr),fun j hj=>?_⟩
  by_cases Xh:j=i
  ·subst Xh
   exact hy.wpOp hi trivial ⟨Du hp,H⟩
  ·have h1:=(H w1 (by unfold May;rw [Na (PM hp)])).2 j (ready_mono hj Xh)
   obtain ⟨eF,oj,Zh,ui⟩:=mem_ready.1 hj;have tI:∀ e∈oj.after,Region.binds .any e=true -> e.on≠i:=fun e he hb heq=>by
    have h1:=ui e he hb;have h0:=(mem_ready.1 hr).1;rw [heq] at h1;rcases Sg i za.size with h' | h'
    ·simp [h'] at h0 h1;rw [h0] at h1;cases h1
    ·simp [Array.getElem?_eq_none h'] at h1
   have h2:=wpOp_putIf Zh (ZE j oj Zh Xh eF tI) (fun cs b=>Qf i oi cs b hi) (fun cs b=>Qf j oj cs b Zh) hQ hy h1
   have iM:∀ k ok,ops[k]?=vE ok -> k≠i -> (za.setIfInBounds j true).getD k true=false ->
     (∀ e∈ok.after,Region.binds .any e=true -> e.on≠i) -> oi.apart ops ok=true:=fun k ok hk hki AF Du=>by
    refine ZE k ok hk hki ?_ Du;by_cases dF:j=k
    ·subst dF;exact eF
    ·rw [getD_set_ne true dF] at AF;exact AF
   refine wpOp_mono (fun a' w' h3=>⟨Du hp,ih (za.setIfInBounds j true) a' w' (PM hp) iM (ready_mono hr (Ne.symm Xh)) h3.1 ?_⟩) h2
   rw [Array.setIfInBounds_comm _ _ Xh];exact h3.2.2
end
def Dp (P:Program) (l:List Oper) (hs bars:List Nat) (Q:Exit -> Act -> vw -> Prop) (R:vw -> vw -> Prop) (order:List Nat) (za:Array Bool) (a:Act) (w:vw):Prop :=
 Region.noSelect l.toArray=true -> Ey l hs bars order za=true -> ID P l.toArray Q bars R order.length za a w
section
variable {P:Program} {l:List Oper} {hs bars:List Nat} {Q:Exit -> Act -> vw -> Prop} {R:vw -> vw -> Prop} {rest:List Nat} {i:Nat} {o:Oper} {za:Array Bool} {a:Act} {w:vw}
theorem Pg {id:Nat} (R:vw -> vw -> Prop) (M:ie R) (hs bars order:List Nat) (hm:P.follows .mixedOrders=true) (Xa:(Region.noSelect l.toArray&&order.length == l.length&&Ey l hs bars order (List.replicate l.length false).toArray)=true)
  (h:Dp P l hs bars Q R order (List.replicate l.length false).toArray a w.drew):(Code.region id l.toArray true).wp P Q a w:=by
 simp only [mc,qi] at Xa;refine wp_region_any hm (zAO (R:=R) (bars:=bars) M _ _ _ _ ?_);have h2:=h Xa.1.1 Xa.2;have e:Array.replicate l.toArray.size false=(List.replicate l.length false).toArray:=by simp
 rw [Xa.1.2] at h2;rw [e]
 simpa using h2
theorem Qg (M:ie R) {order:List Nat} (h:∀ W,R w W -> Dp P l hs bars Q R order za a W):Dp P l hs bars Q R order za a w:=h w (M.refl w)
theorem Kr (hp:Nd bars za=false) (h:∀ w1,R w w1 -> Q .normal a w1):Dp P l hs bars Q R [] za a w:=fun _ Xa=>⟨by simpa [Ey] using Xa,fun w1 h1=>h w1 (h1.out hp)⟩
theorem Ep (hp:Nd bars za=true) (h:Q .normal a w):Dp P l hs bars Q R [] za a w:=fun _ Xa=>⟨by simpa [Ey] using Xa,fun w1 h1=>by rw [h1.eq hp];exact h⟩
theorem ZW {v:vx} (M:ie R) (hh:hs.contains i=false) (hp:Nd bars za=false) (ho:l[i]?=vE o) (hQ:∀ c a w,Q (.panic c) (a.put o.dst v) w -> Q (.panic c) a w)
  (hpu:PureAt P l.toArray R w o v a) (h:Dp P l hs bars Q R rest (za.setIfInBounds i true) (a.put o.dst v) w):Dp P l hs bars Q R (i :: rest) za a w:=by
 intro hn Xa;obtain ⟨h1,h2,-,h4,h5⟩:=AK Xa;obtain ⟨f1,f2,f3⟩:=h4 hh;have Bj:l.toArray[i]?=vE o:=by rw [Ln];exact ho
 refine zIn M Bj (Uu hn) hQ f2 (fun b hb ob hob=>UW hob ?_) _ _ _ _ hp (Region.free_spec Bj f1) (by simpa using h2) hpu (h hn h5)
 rcases f3 with f3 | f3
 ·rw [hp] at f3;cases f3
 ·exact f3 b hb
theorem zAP {v:vx} (M:ie R) (hh:hs.contains i=false) (hp:Nd bars za=false) (ho:l[i]?=vE o) (hw:Region.wanted o (yielded l.toArray a.tmps)=true) (hQ:∀ c a w,Q (.panic c) (a.put o.dst v) w -> Q (.panic c) a w)
  (Uc:∀ w',R w w' -> (execOp a.eval o).run P w'= .ok (.value v) w') (h:Dp P l hs bars Q R rest (za.setIfInBounds i true) (a.put o.dst v) w):Dp P l hs bars Q R (i :: rest) za a w :=
 ZW M hh hp ho hQ (.inl ⟨hw, .inl Uc⟩) h
theorem zAQ (M:ie R) (hh:hs.contains i=false) (hp:Nd bars za=false) (ho:l[i]?=vE o) (hw:Region.wanted o (yielded l.toArray a.tmps)=false) (hQ:∀ c a w,Q (.panic c) (a.put o.dst undef) w -> Q (.panic c) a w)
  (h:Dp P l hs bars Q R rest (za.setIfInBounds i true) (a.put o.dst undef) w):Dp P l hs bars Q R (i :: rest) za a w :=
 ZW M hh hp ho hQ (.inr ⟨hw,rfl⟩) h
theorem Je {a b:Prop} (h:a) (s:Imp a b:=by
 (repeat ((first | (apply Imp.via (zAQ (ra) rfl rfl rfl rfl (fun _ _ _ h=>h))) | (apply Imp.via (zAP (v:=?_) (ra) rfl rfl rfl rfl (fun _ _ _ h=>h) ?hr);case hr=>(intro w' hR;(first | have Rn:=oK ((ra).trans _ _ _ ia hR) | skip);go_simp;try with_reducible rfl)));simp only [vG,zLa,zLb,zLc]))
 exact Imp.rfl'):b:=s h
theorem Dd {v:vx} {f:FuncId} {vals:Array vx} (M:ie R) (hh:hs.contains i=false) (hp:Nd bars za=false) (ho:l[i]?=vE o) (hw:Region.wanted o (yielded l.toArray a.tmps)=true) (hQ:∀ c a w,Q (.panic c) (a.put o.dst v) w -> Q (.panic c) a w)
  (Uc:∀ w,(execOp a.eval o).run P w= .ok (.enter f vals) w) (hc:∀ w',R w w' -> vB P f vals w' fun e Dl=>e=vl v /\ R w' Dl)
  (h:Dp P l hs bars Q R rest (za.setIfInBounds i true) (a.put o.dst v) w):Dp P l hs bars Q R (i :: rest) za a w :=
 ZW M hh hp ho hQ (.inl ⟨hw, .inr ⟨f,vals,Uc,hc⟩⟩) h
theorem zIm {v:vx} (hh:hs.contains i=false) (hp:Nd bars za=true) (ho:l[i]?=vE o) (hw:Region.wanted o (yielded l.toArray a.tmps)=true) (hQ:∀ c a w,Q (.panic c) (a.put o.dst v) w -> Q (.panic c) a w)
  (Uc:∀ w',(execOp a.eval o).run P w'= .ok (.value v) w') (h:Dp P l hs bars Q R rest (za.setIfInBounds i true) (a.put o.dst v) w):Dp P l hs bars Q R (i :: rest) za a w:=by
 intro hn Xa;obtain ⟨h1,h2,-,h4,h5⟩:=AK Xa;have Bj:l.toArray[i]?=vE o:=by rw [Ln];exact ho
 exact zIo Bj (Uu hn) hQ _ _ _ _ hp (Region.free_spec Bj (h4 hh).1) (by simpa using h2) (.inl ⟨hw,fun w' _=>Uc w'⟩) (h hn h5)
theorem Te {a b:Prop} (h:a) (s:Imp a b:=by
 (repeat ((first | (apply Imp.via (zAQ (ra) rfl rfl rfl rfl (fun _ _ _ h=>h))) | (apply Imp.via (zAP (v:=?_) (ra) rfl rfl rfl rfl (fun _ _ _ h=>h) ?hr);case hr=>(intro w' hR;(first | have Rn:=oK ((ra).trans _ _ _ ia hR) | skip);go_simp;try with_reducible rfl)) | (apply Imp.via (zIm (v:=?_) rfl rfl rfl rfl (fun _ _ _ h=>h) ?hr);case hr=>(intro w';go_simp;try with_reducible rfl)));simp only [vG,zLa,zLb,zLc]))
 exact Imp.rfl'):b:=s h
theorem jo (hh:hs.contains i=true) (hp:Nd bars za=false) (ho:l[i]?=vE o) (hw:Region.wanted o (yielded l.toArray a.tmps)=true)
  (h:∀ w1,R w w1 -> o.wp P a w1 (fun a' w'=>(Nd bars (za.setIfInBounds i true)=false -> R w1 w') /\ Dp P l hs bars Q R rest (za.setIfInBounds i true) a' w') Q):Dp P l hs bars Q R (i :: rest) za a w:=by
 intro hn Xa;obtain ⟨h1,-,h3,-,h5⟩:=AK Xa;have hr:=h3 hh;intro w1 sh;refine ⟨fun h0=>absurd (hr ▸ h0) (by simp),fun j hj=>?_⟩
 rw [hr,Fo] at hj;subst hj;unfold wpOp;have hi:l.toArray[j]?=vE o:=by rw [Ln];exact ho
 simp only [hi,hw,if_true];exact .inl (Oper.wp_mono (fun a' w' h'=>⟨h'.1,h'.2 hn h5⟩) (h w1 (sh.out hp)))
end
end Go.Proofs.YteoghgbnielkpaaGreat
