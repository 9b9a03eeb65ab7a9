/- A part of the proof. No condition. -/
import Derived.Shelf.Bits.Mul64
import Derived.Shelf.Small.Bits
import Derived.Shelf.Strconv.Itoa0
import Derived.Test.YtjipleoamlmkfaaGreatProg
import Derived.Test.YtjipleoamlmkfaaGreatPF1
import Derived.BigQuiet
import Derived.Deep.CutBlock
import Derived.Deep.DeepCutAuto
import Derived.Deep.QuietTactic
import Derived.Lib.ItoaNum
import Derived.Outline

set_option maxRecDepth 100000
set_option maxHeartbeats 8000000
set_option linter.unusedVariables false
set_option linter.unusedSimpArgs false
namespace Go.Proofs.YtjipleoamlmkfaaGreat
open Go.RowKit
def UR:Go.Shelf.Ren:=⟨fun | 264=>204 | n=>n,fun | 46=>236 | 53=>22 | n=>n,fun n=>n⟩
theorem qO:Go.Proofs.Lays.n264 Tryz.prog UR:={ mixed:=by kernel_rfl,f264:=by kernel_rfl,t46:=by kernel_rfl,a46:=fun _=>by kernel_rfl,z46:=fun _=>by kernel_rfl,v46:=fun _=>by kernel_rfl,t53:=by kernel_rfl,a53:=fun _=>by kernel_rfl,z53:=fun _=>by kernel_rfl,v53:=fun _=>by kernel_rfl }
theorem YI (x y:Nat) (w:World) (hx:x<18446744073709551616) (hy:y<18446744073709551616) :
  Calls Tryz.prog 204 #[.int .u64 x, .int .u64 y] w fun e w'=>e= .returned (.tuple #[.int .u64 ((x*y / 18446744073709551616:Nat):Int), .int .u64 ((x*y%18446744073709551616:Nat):Int)]) /\ w'=w :=
 Any.bits_Mul64 qO x y hx hy w
def SR:Go.Shelf.Ren:=⟨fun | 129=>210 | 134=>233 | n=>n,fun | 3=>3 | 4=>4 | 5=>5 | 9=>9 | 46=>236 | 53=>22 | n=>n,fun n=>n⟩
theorem mO:Go.Proofs.Lays.n134 Tryz.prog SR:={ mixed:=by kernel_rfl,f129:=by kernel_rfl,f134:=by kernel_rfl,t3:=by kernel_rfl,a3:=fun _=>by kernel_rfl,z3:=fun _=>by kernel_rfl,v3:=fun _=>by kernel_rfl,t4:=by kernel_rfl,a4:=fun _=>by kernel_rfl,z4:=fun _=>by kernel_rfl,v4:=fun _=>by kernel_rfl,t5:=by kernel_rfl,a5:=fun _=>by kernel_rfl,z5:=fun _=>by kernel_rfl,v5:=fun _=>by kernel_rfl,t9:=by kernel_rfl,a9:=fun _=>by kernel_rfl,z9:=fun _=>by kernel_rfl,v9:=fun _=>by kernel_rfl,t46:=by kernel_rfl,a46:=fun _=>by kernel_rfl,z46:=fun _=>by kernel_rfl,v46:=fun _=>by kernel_rfl,t53:=by kernel_rfl,a53:=fun _=>by kernel_rfl,z53:=fun _=>by kernel_rfl,v53:=fun _=>by kernel_rfl }
theorem CO (x:Int) (w:World) (h0:0 <= x) (h1:x <= 18446744073709551615) :
  Calls Tryz.prog 233 #[.int .u64 x] w fun e w'=>e= .returned (.int .i64 (64-(Lib.bitLen x.toNat:Int))) /\ w'=w:=Any.bits_LeadingZeros64 mO x w h0 h1
def RR:Go.Shelf.Ren:=⟨fun | 125=>161 | 128=>209 | 129=>210 | n=>n,fun | 3=>3 | 4=>4 | 5=>5 | 9=>9 | 46=>236 | 51=>271 | 53=>22 | n=>n,fun n=>n⟩
theorem lO:Go.Proofs.Lays.n125 Tryz.prog RR:={ mixed:=by kernel_rfl,f125:=by kernel_rfl,f128:=by kernel_rfl,f129:=by kernel_rfl,t3:=by kernel_rfl,a3:=fun _=>by kernel_rfl,z3:=fun _=>by kernel_rfl,v3:=fun _=>by kernel_rfl,t4:=by kernel_rfl,a4:=fun _=>by kernel_rfl,z4:=fun _=>by kernel_rfl,v4:=fun _=>by kernel_rfl,t5:=by kernel_rfl,a5:=fun _=>by kernel_rfl,z5:=fun _=>by kernel_rfl,v5:=fun _=>by kernel_rfl,t9:=by kernel_rfl,a9:=fun _=>by kernel_rfl,z9:=fun _=>by kernel_rfl,v9:=fun _=>by kernel_rfl,t46:=by kernel_rfl,a46:=fun _=>by kernel_rfl,z46:=fun _=>by kernel_rfl,v46:=fun _=>by kernel_rfl,t51:=by kernel_rfl,a51:=fun _=>by kernel_rfl,z51:=fun _=>by kernel_rfl,v51:=fun _=>by kernel_rfl,t53:=by kernel_rfl,a53:=fun _=>by kernel_rfl,z53:=fun _=>by kernel_rfl,v53:=fun _=>by kernel_rfl }
theorem sO (x:Int) (w:World) (h0:0 <= x) (h1:x <= 18446744073709551615) :
  Calls Tryz.prog 161 #[.int .u64 x] w fun e w'=>e= .returned (.int .i64 (Lib.bitLen x.toNat)) /\ w'=w:=Any.bits_Len lO x w h0 h1
theorem kM {u v y Rg wk:Nat} (hy:y=Rg*4294967296+wk) (hn:wk<4294967296) (h1:2147483648 <= Rg) (hu:u<y) (hv:v<4294967296) :
  (u*4294967296+v) / y <= u / Rg /\ u / Rg <= 4294967297 /\ (u*4294967296+v) / y<4294967296:=by
 refine ⟨?_,?_,?_⟩
 ·rw [Nat.le_div_iff_mul_le (by omega)]
  have h2:(u*4294967296+v) / y*y <= u*4294967296+v:=Nat.div_mul_le_self _ _;generalize (u*4294967296+v) / y=q at *;have h3:q*y=q*Rg*4294967296+q*wk:=by rw [hy,Nat.mul_add,Nat.mul_assoc]
  omega
 ·have:u<(4294967298)*Rg:=by omega
  have:=(Nat.div_lt_iff_lt_mul (k:=Rg) (by omega)).2 this
  omega
 ·rw [Nat.div_lt_iff_lt_mul (by omega)]
  have:u+1 <= y:=hu;have h:=Nat.mul_le_mul_right 4294967296 this;rw [Nat.mul_comm 4294967296 y];omega
theorem ZG {u v y Rg wk c:Nat} (hy:y=Rg*4294967296+wk) (h1:2147483648 <= Rg) (hc:c*Rg <= u) :
  (4294967296*(u-c*Rg)+v<c*wk)↔(u*4294967296+v) / y<c:=by
 rw [Nat.div_lt_iff_lt_mul (by omega)]
 have h3:c*y=c*Rg*4294967296+c*wk:=by rw [hy,Nat.mul_add,Nat.mul_assoc]
 omega
theorem jM {u v y Rg wk c:Nat} (hy:y=Rg*4294967296+wk) (hn:wk<4294967296) (h1:2147483648 <= Rg) (hc:c*Rg <= u) (hb:c <= 4294967296) (hr:4294967296 <= u-c*Rg) (hq:(u*4294967296+v) / y<c+1) :
  c=(u*4294967296+v) / y:=by
 have h:=not_congr (ZG (v:=v) hy h1 hc);have h5:c*wk <= 4294967296*wk:=Nat.mul_le_mul_right _ hb;have h6:¬(4294967296*(u-c*Rg)+v<c*wk):=by
  have:4294967296*wk <= 4294967296*4294967295:=Nat.mul_le_mul_left _ (by omega)
  have:4294967296*4294967296 <= 4294967296*(u-c*Rg):=Nat.mul_le_mul_left _ hr;omega
 have:=h.1 h6;omega
theorem oM {X y0 s y u v1 v0 q1 r1 q0 r0:Nat} (hy:y=y0*2^s) (Er:0<y0) (hU:X*2^s=(u*4294967296+v1)*4294967296+v0)
  (e1:q1=(u*4294967296+v1) / y) (f1:r1=(u*4294967296+v1)%y) (e0:q0=(r1*4294967296+v0) / y) (f0:r0=(r1*4294967296+v0)%y) :
  X / y0=q1*4294967296+q0 /\ X%y0=r0 / 2^s:=by
 have hp:0<2^s:=Nat.pow_pos (by omega)
 have hyp:0<y:=by rw [hy];exact Nat.mul_pos Er hp
 have a1:(u*4294967296+v1)=y*q1+r1:=by rw [e1,f1,Nat.div_add_mod]
 have a0:(r1*4294967296+v0)=y*q0+r0:=by rw [e0,f0,Nat.div_add_mod]
 have hr:r0<y:=by rw [f0];exact Nat.mod_lt _ hyp
 have key:X*2^s=y*(q1*4294967296+q0)+r0:=by
  have e1:y*(q1*4294967296+q0)=y*q1*4294967296+y*q0:=by rw [Nat.mul_add y,Nat.mul_assoc]
  omega
 have hdiv:X / y0=q1*4294967296+q0:=by
  rw [<- Nat.mul_div_mul_right X y0 hp,<- hy,key,Nat.mul_add_div hyp,Nat.div_eq_of_lt hr,Nat.add_zero]
 refine ⟨hdiv,?_⟩;have hm:X*2^s%y=r0:=by rw [key,Nat.mul_add_mod,Nat.mod_eq_of_lt hr]
 rw [hy,Nat.mul_mod_mul_right] at hm;rw [<- hm,Nat.mul_div_cancel _ hp]
theorem BL {y:Nat} (h0:y≠0) (h:y<18446744073709551616):Lib.bitLen y <= 64 /\ 9223372036854775808 <= y*2^(64-Lib.bitLen y) /\ y*2^(64-Lib.bitLen y)<18446744073709551616:=by
 obtain ⟨h1,h2,h3⟩:=Lib.bitLenAux_bounds 64 y h h0;have h4:Lib.bitLenAux 64 y <= 64:=Lib.bitLenAux_le 64 y 64 h;have e:Lib.bitLen y=Lib.bitLenAux 64 y:=rfl;rw [e];generalize Lib.bitLenAux 64 y=k at *;have e1:2^(k-1)*2^(64-k)=2^63:=by rw [<- Nat.pow_add];congr 1;omega
 have e2:2^k*2^(64-k)=2^64:=by rw [<- Nat.pow_add];congr 1;omega
 refine ⟨h4,?_,?_⟩
 ·have:=Nat.mul_le_mul_right (2^(64-k)) h2
  omega
 ·have:=(Nat.mul_lt_mul_right (a:=2^(64-k)) (Nat.pow_pos (by omega))).2 h3
  omega
theorem pg (a:Nat) (h:a<18446744073709551616):IntKind.u64.wrap (a:Int)=(a:Int):=by rw [IntKind.wrap_u64];omega
theorem ZF (a:Nat):IntKind.u64.wrap (a:Int)=((a%18446744073709551616:Nat):Int):=by rw [IntKind.wrap_u64];omega
theorem oC (a b:Nat) (h:a*b<18446744073709551616):IntKind.u64.wrap ((a:Int)*(b:Int))=((a*b:Nat):Int):=by rw [<- Int.natCast_mul,pg _ h]
theorem WK (a b:Nat):IntKind.u64.wrap ((a:Int)*(b:Int))=((a*b%18446744073709551616:Nat):Int):=by rw [<- Int.natCast_mul,ZF]
theorem mC (a b:Nat) (h:a+b<18446744073709551616):IntKind.u64.wrap ((a:Int)+(b:Int))=((a+b:Nat):Int):=by rw [<- Int.natCast_add,pg _ h]
theorem WT (a b:Nat):IntKind.u64.wrap ((a:Int)+(b:Int))=(((a+b)%18446744073709551616:Nat):Int):=by rw [<- Int.natCast_add,ZF]
theorem Yn (a b:Nat) (h:b <= a) (ha:a<18446744073709551616):IntKind.u64.wrap ((a:Int)-(b:Int))=((a-b:Nat):Int):=by rw [IntKind.wrap_u64];omega
theorem XT {X c Z r:Nat} (h:X+c=Z+r) (hr:r<18446744073709551616):IntKind.u64.wrap ((((X%18446744073709551616+c)%18446744073709551616:Nat):Int)-((Z%18446744073709551616:Nat):Int))=(r:Int):=by
 rw [IntKind.wrap_u64];omega
theorem CP (a b s:Nat) (hs:s <= 64) (ha:a*2^s<18446744073709551616) (hb:b<2^s):bits .or .u64 ((a*2^s:Nat):Int) (b:Int)=((a*2^s+b:Nat):Int):=by
 have h1:b<18446744073709551616:=by
  rcases Nat.eq_zero_or_pos a with h0 | h0
  ·subst h0
   have:2^s <= 2^64:=Nat.pow_le_pow_right (by omega) hs
   omega
  ·have:2^s <= a*2^s:=Nat.le_mul_of_pos_left _ h0
   omega
 have h:=bits_or_u64_nat (a*2^s) b ha h1;rw [h,Nat.mul_comm a,Nat.two_pow_add_eq_or_of_lt hb]
theorem SI (a:Nat) (ha:a<18446744073709551616):bits .and .u64 (a:Int) 4294967295=((a%4294967296:Nat):Int):=by
 have h:=bits_and_u64_nat a 4294967295 ha (by omega)
 have e:a &&& 4294967295=a%4294967296:=Nat.and_two_pow_sub_one_eq_mod a 32;rw [e] at h;exact h
theorem aH {u v Y a b:Nat} (hY:Y=a*4294967296+b) (hb:b<4294967296) (ha:2147483648 <= a) (hu:u<Y) (hv:v<4294967296) (hY2:Y<18446744073709551616) :
  ∃ Q r k0 k0a rh U1 U2 U3:Nat,(Q=(u*4294967296+v) / Y /\ r=(u*4294967296+v)%Y) /\ r<Y /\ Q<4294967296 /\ Q <= k0 /\ k0 <= 4294967297 /\ (k0*a <= u /\ rh=u-k0*a) /\ rh<4294967296 /\
   (u:Int) / (a:Int)=(k0:Int) /\ IntKind.u64.wrap ((k0:Int)*(a:Int))=(k0a:Int) /\ IntKind.u64.wrap ((u:Int)-(k0a:Int))=(rh:Int) /\
   IntKind.u64.wrap ((u:Int)*4294967296)=(U1:Int) /\ IntKind.u64.wrap ((U1:Int)+(v:Int))=(U2:Int) /\ IntKind.u64.wrap ((Q:Int)*(Y:Int))=(U3:Int) /\ IntKind.u64.wrap ((U2:Int)-(U3:Int))=(r:Int):=by
 obtain ⟨t1,t2,t3⟩:=kM hY hb ha hu hv;have h1:=Nat.div_mul_le_self u a;have h2:=Nat.mod_lt u (show 0<a by omega)
 have h3:=Nat.div_add_mod u a;have h4:=Nat.mul_comm a (u / a);have hr:=Nat.mod_lt (u*4294967296+v) (show 0<Y by omega)
 have h5:=Nat.div_add_mod (u*4294967296+v) Y;rw [Nat.mul_comm Y] at h5;refine ⟨(u*4294967296+v) / Y,(u*4294967296+v)%Y,u / a,u / a*a,u-u / a*a,u*4294967296%18446744073709551616,(u*4294967296%18446744073709551616+v)%18446744073709551616,(u*4294967296+v) / Y*Y%18446744073709551616,
  ⟨rfl,rfl⟩,hr,t3,t1,t2,⟨h1,rfl⟩,by omega,rfl,oC _ _ (by omega),Yn _ _ h1 (by omega),WK u 4294967296,WT _ _,WK _ _,XT h5.symm (by omega)⟩
theorem YJ {u a k r Q:Nat} (hK:k*a <= u /\ r=u-k*a) (oa:Q<k) (hk:k <= 4294967297) (hr:r<4294967296) (_ha:2147483648 <= a) (haT:a<4294967296) :
  ∃ k1 r1:Nat,IntKind.u64.wrap ((k:Int)-1)=(k1:Int) /\ IntKind.u64.wrap ((r:Int)+(a:Int))=(r1:Int) /\ k=k1+1 /\ r1=r+a :=
 ⟨k-1,r+a,Yn k 1 (by omega) (by omega),mC _ _ (by omega),by omega,rfl⟩
theorem qF {u a k r k1 r1 Q:Nat} (hK:k*a <= u /\ r=u-k*a) (h1:k=k1+1) (h2:r1=r+a) (_hlt:Q<k):k1*a <= u /\ r1=u-k1*a:=by
 subst h1;rw [Nat.add_mul k1 1,Nat.one_mul] at hK;omega
theorem ZJ {u v Y a b k r k1 r1 Q:Nat} (hY:Y=a*4294967296+b) (hb:b<4294967296) (ha:2147483648 <= a) (hK:k*a <= u /\ r=u-k*a) (hQ:Q=(u*4294967296+v) / Y) (h1:k=k1+1) (h2:r1=r+a) (oa:Q<k) (hk:k <= 4294967297) (hS:4294967296 <= r1):Q=k1:=by
 obtain ⟨g1,g2⟩:=qF hK h1 h2 oa;rw [g2] at hS;have:=jM (v:=v) hY hb ha g1 (by omega) hS (by omega)
 omega
theorem QB {u v Y a b k r Q:Nat} (hY:Y=a*4294967296+b) (hb:b<4294967296) (ha:2147483648 <= a) (hv:v<4294967296) (hK:k*a <= u /\ r=u-k*a) (hr:r<4294967296) (hQ:Q=(u*4294967296+v) / Y) (hB:k<4294967296) :
  ∃ kb r2 r3:Nat,IntKind.u64.wrap ((k:Int)*(b:Int))=(kb:Int) /\ IntKind.u64.wrap (4294967296*(r:Int))=(r2:Int) /\ IntKind.u64.wrap ((r2:Int)+(v:Int))=(r3:Int) /\ (r3<kb↔Q<k):=by
 have h1:k*b <= 4294967295*b:=Nat.mul_le_mul_right _ (by omega)
 have h2:=ZG (v:=v) hY ha hK.1;rw [<- hK.2,<- hQ] at h2;exact ⟨k*b,4294967296*r,4294967296*r+v,oC _ _ (by omega),oC 4294967296 r (by omega),mC _ _ (by omega),h2⟩
theorem pM {h l y s Y:Nat} (hh:h<y) (hl:l<18446744073709551616) (hY:Y=y*2^s) (hs:s <= 64) (hy:Y<18446744073709551616) :
  h*2^s<18446744073709551616 /\ l / 2^(64-s)<2^s /\ h*2^s+l / 2^(64-s)<Y /\
  (h*18446744073709551616+l)*2^s=((h*2^s+l / 2^(64-s))*4294967296+(l*2^s%18446744073709551616) / 4294967296)*4294967296+(l*2^s%18446744073709551616)%4294967296:=by
 have hp:0<2^s:=Nat.pow_pos (by omega)
 have e64:2^(64-s)*2^s=18446744073709551616:=by rw [<- Nat.pow_add,show 64-s+s=64 by omega]
 have h1:h*2^s<Y:=by rw [hY];exact (Nat.mul_lt_mul_right hp).2 hh
 have h2:l / 2^(64-s)<2^s:=by rw [Nat.div_lt_iff_lt_mul (Nat.pow_pos (by omega)),Nat.mul_comm,e64];exact hl
 have h3:l*2^s / 18446744073709551616=l / 2^(64-s):=by rw [<- e64,Nat.mul_div_mul_right _ _ hp]
 have h4:h*2^s+l / 2^(64-s)<Y:=by
  have:(h+1)*2^s <= Y:=by rw [hY];exact Nat.mul_le_mul_right _ hh
  rw [Nat.add_mul h 1] at this;omega
 refine ⟨by omega,h2,h4,?_⟩
 rw [<- h3,Nat.add_mul (h*18446744073709551616) l,Nat.mul_right_comm];generalize l*2^s=A;generalize h*2^s=C;omega
theorem eH (h l y:Nat) (w:World) (hh:h<y) (hl:l<18446744073709551616) (hy:y<18446744073709551616) :
  Calls Tryz.prog 205 #[.int .u64 h, .int .u64 l, .int .u64 y] w fun e w'=>e= .returned (.tuple #[.int .u64 (((h*18446744073709551616+l) / y:Nat):Int), .int .u64 (((h*18446744073709551616+l)%y:Nat):Int)]) /\ ∃ k,w'=w.drewN k:=by
 have g1:((y:Int) == 0)=false:=by rw [beq_eq_false_iff_ne];omega
 by_cases hz:h=0
 ·subst hz
  have g0:decide (y=0)=false:=decide_eq_false (by omega)
  have p1:(0:Int)<(y:Int):=by omega
  have p2:¬((y:Int)=0):=by omega
  have q1:IntKind.u64.wrap ((l:Int) / (y:Int))=((l / y:Nat):Int):=by
   rw [<- Int.natCast_ediv,pg];have:=Nat.div_le_self l y;omega
  have HH:=zH hh;clear hh;go_enter Tryz.func205,Tryz.ntmps205
  go_wp2_with fail
  go_quiet (fail)
  go_wp2
  go_ret2
  refine ⟨?_,_,rfl⟩;rw [Nat.zero_mul,Nat.zero_add]
  rfl
 ·have g3:((h:Int) == 0)=false:=by rw [beq_eq_false_iff_ne];omega
  have g2:¬(y <= h):=by omega
  obtain ⟨b0,b1,b2⟩:=BL (y:=y) (by omega) hy
  have HL:=zH (fun w=>CO (y:Int) w (by omega) (by omega))
  rw [Int.toNat_natCast] at HL;have hs:(64-(Lib.bitLen y:Int))=((64-Lib.bitLen y:Nat):Int):=by omega
  rw [hs] at HL;clear hs;revert HL b1 b2
  generalize hs:64-Lib.bitLen y=s;have pZ:s <= 64:=by omega
  clear hs b0;intro b1 b2 HL;obtain ⟨Y,hY⟩:=zEX (y*2^s);rw [<- hY] at b1 b2;have e1:IntKind.u64.wrap ((y:Int)*2^s)=(Y:Int):=by
   rw [show ((y:Int)*2^s)=((y*2^s:Nat):Int) by rw [Int.natCast_mul,Int.natCast_pow];rfl,<- hY,pg _ b2]
  obtain ⟨s1,s2,s3,s4⟩:=pM hh hl hY pZ b2;have e4:IntKind.u64.wrap ((h:Int)*2^s)=((h*2^s:Nat):Int):=by
   rw [show ((h:Int)*2^s)=((h*2^s:Nat):Int) by rw [Int.natCast_mul,Int.natCast_pow];rfl,pg _ s1]
  have e5:bits .or .u64 ((h*2^s:Nat):Int) ((l:Int) / 2^(64-s))=((h*2^s+l / 2^(64-s):Nat):Int):=by
   rw [show ((l:Int) / 2^(64-s))=((l / 2^(64-s):Nat):Int) by rw [Int.natCast_ediv,Int.natCast_pow];rfl]
   exact CP _ _ _ pZ s1 s2
  have e6:IntKind.u64.wrap ((l:Int)*2^s)=((l*2^s%18446744073709551616:Nat):Int):=by
   rw [show ((l:Int)*2^s)=((l*2^s:Nat):Int) by rw [Int.natCast_mul,Int.natCast_pow];rfl,ZF]
  have HR:Hid (∀ q1 r1 q0 r0,q1=((h*2^s+l / 2^(64-s))*4294967296+(l*2^s%18446744073709551616) / 4294967296) / Y ->
    r1=((h*2^s+l / 2^(64-s))*4294967296+(l*2^s%18446744073709551616) / 4294967296)%Y -> q0=(r1*4294967296+(l*2^s%18446744073709551616)%4294967296) / Y ->
    r0=(r1*4294967296+(l*2^s%18446744073709551616)%4294967296)%Y -> (h*18446744073709551616+l) / y=q1*4294967296+q0 /\ (h*18446744073709551616+l)%y=r0 / 2^s) :=
   fun q1 r1 q0 r0 f1 f2 f3 f4=>oM hY (by omega) s4 f1 f2 f3 f4
  clear s1 s2 s4;revert HR e4 e5 e6 s3
  generalize h*2^s=H;generalize H+l / 2^(64-s)=u;have hL:l*2^s%18446744073709551616<18446744073709551616:=Nat.mod_lt _ (by omega)
  revert hL
  generalize l*2^s%18446744073709551616=L;intro hL s3 e4 e5 e6 HR;have e7:(L:Int) / 4294967296=((L / 4294967296:Nat):Int):=rfl;have e8:=SI L hL;have hc:L / 4294967296<4294967296:=by omega
  have hd:L%4294967296<4294967296:=by omega
  revert e7 e8 hc hd HR
  generalize L / 4294967296=c;generalize L%4294967296=d;intro HR e7 e8 hc hd;have e2:(Y:Int) / 4294967296=((Y / 4294967296:Nat):Int):=rfl;have e3:=SI Y b2;have Dx:2147483648 <= Y / 4294967296:=by omega
  have hb:Y%4294967296<4294967296:=by omega
  have Hm:=zH (show Y=Y / 4294967296*4294967296+Y%4294967296 by omega)
  revert e2 e3 Dx hb Hm
  generalize Y / 4294967296=a;generalize Y%4294967296=b;intro e2 e3 Dx hb Hm;have HY:=zH hY;clear hY hL;have p1:(0:Int)<(a:Int):=by omega
  have p2:¬((a:Int)=0):=by omega
  have haT:a<4294967296:=by have:=Hm.out;omega
  obtain ⟨Q1,v1,k0,k0a,rh0,U1,U2,U3,Cm,yn,hQ1,Yj,Lg,Zc,Jd,x1,x2,x3,x4,x5,x6,x7⟩:=aH Hm.out hb Dx s3 hc b2;obtain ⟨Q0,v0,l0,l0a,rh1,V1,V2,V3,tl,rj,hQ0,sn,aW,Fu,hr0,y1,y2,y3,y4,y5,y6,y7⟩:=aH Hm.out hb Dx yn hd b2;have HX:=zH (HR.out Q1 v1 Q0 v0 Cm.1 Cm.2 tl.1 tl.2);obtain ⟨R,hR⟩:=zEX (v0 / 2^s);obtain ⟨M1,Jv⟩:=zEX (Q1*4294967296);obtain ⟨M,hM⟩:=zEX (M1+Q0);have z1:IntKind.u64.wrap ((Q1:Int)*4294967296)=(M1:Int):=by rw [Jv];exact oC Q1 4294967296 (by omega)
  have z2:IntKind.u64.wrap ((M1:Int)+(Q0:Int))=(M:Int):=by rw [hM];exact mC _ _ (by omega)
  have z3:(v0:Int) / 2^s=(R:Int):=by rw [hR,Int.natCast_ediv,Int.natCast_pow];rfl
  rw [<- hR,<- Jv,<- hM] at HX;clear hR Jv hM;have mf:=zH hc;have Zt:=zH hd;have Hb:=zH hb;have Qs:=zH Dx;have HaT:=zH haT;replace hQ1:=zH hQ1;replace hQ0:=zH hQ0;replace Lg:=zH Lg;replace aW:=zH aW;replace Jd:=zH Jd;replace hr0:=zH hr0;replace b1:=zH b1;replace b2:=zH b2;have xk1:IntKind.u64.wrap (k0:Int)=(k0:Int):=pg _ (by have:=Lg.out;omega)
  have xk0:IntKind.u64.wrap (l0:Int)=(l0:Int):=pg _ (by have:=aW.out;omega)
  clear hc hd hb Dx haT;replace Cm:=zH Cm;replace tl:=zH tl;replace Zc:=zH Zc;replace Fu:=zH Fu;clear HR hl hy s3;rw [HX.out.1,HX.out.2];go_enter Tryz.func205,Tryz.ntmps205
  go_upto_block 0 with (go_at_call 233;refine (HL.out _).mono ?_;rintro e w1 ⟨rfl,rfl⟩)
  go_cut [15] (fun s15 wx=>s15= .int .u64 Q1 /\ w1=wx)
  case first =>
   go_wp2_with fail
   go_loop [15,16] (fun x z=>∃ k r:Nat,Hid (k*a <= u /\ r=u-k*a) /\ Q1 <= k /\ k <= 4294967297 /\ r<4294967296 /\ x= .int .u64 k /\ z= .int .u64 r)
    (fun x _=>(intOf x).toNat)
   case atStart=>exact ⟨_,_,Zc,Yj,Lg.out,Jd.out,rfl,rfl⟩
   case round =>
    obtain ⟨k,r,HK,i1,i2,i3,rfl,rfl⟩:=hrel;have I2:=zH i2;have I3:=zH i3;clear i2 i3;by_cases oa:Q1<k
    ·obtain ⟨k1,r1,m1,m2,Lg,Jd⟩:=YJ (a:=a) HK.out oa I2.out I3.out Qs.out HaT.out
     have HN:=zH (qF HK.out Lg Jd oa);have HF:=zH (fun h1=>ZJ Hm.out Hb.out Qs.out HK.out Cm.out.1 Lg Jd oa I2.out h1)
     have Yj:Q1 <= k1:=by omega
     have Xo:=zH (show k1 <= 4294967297 by have:=I2.out;omega)
     have hkd:k1<k:=by omega
     clear Lg Jd;by_cases hB:4294967296 <= k
     ·have b1:¬((k:Int)<4294967296):=by omega
      by_cases hS:4294967296 <= r1
      ·have HS:=zH hS
       have yv:decide ((4294967296:Int) <= (r1:Int))=true:=decide_eq_true (by omega)
       have zv:decide (4294967296 <= r1)=true:=decide_eq_true (by omega)
       clear hS;go_wp2_with fail
       go_meet
       exact ⟨by rw [HF.out HS.out],rfl⟩
      ·have HS:=zH hS
       have yv:decide ((4294967296:Int) <= (r1:Int))=false:=decide_eq_false (by omega)
       have zv:decide (4294967296 <= r1)=false:=decide_eq_false (by omega)
       clear hS;go_wp2_with fail
       go_round
       case rel=>exact ⟨k1,r1,HN.out,Yj,Xo.out,Nat.not_le.1 HS.out,rfl,rfl⟩
       case measure=>simp [intOf];omega
     ·have b2:(k:Int)<4294967296:=by omega
      obtain ⟨kb,r2,r3,n1,n2,n3,hT⟩:=QB Hm.out Hb.out Qs.out mf.out HK.out I3.out Cm.out.1 (by omega)
      have Lv:r3<kb:=hT.2 oa;clear hT;by_cases hS:4294967296 <= r1
      ·have HS:=zH hS
       have yv:decide ((4294967296:Int) <= (r1:Int))=true:=decide_eq_true (by omega)
       have zv:decide (4294967296 <= r1)=true:=decide_eq_true (by omega)
       clear hS;go_wp2_with fail
       go_meet
       exact ⟨by rw [HF.out HS.out],rfl⟩
      ·have HS:=zH hS
       have yv:decide ((4294967296:Int) <= (r1:Int))=false:=decide_eq_false (by omega)
       have zv:decide (4294967296 <= r1)=false:=decide_eq_false (by omega)
       clear hS;go_wp2_with fail
       go_round
       case rel=>exact ⟨k1,r1,HN.out,Yj,Xo.out,Nat.not_le.1 HS.out,rfl,rfl⟩
       case measure=>simp [intOf];omega
    ·have e:k=Q1:=by omega
     obtain ⟨kb,r2,r3,n1,n2,n3,hT⟩:=QB Hm.out Hb.out Qs.out mf.out HK.out I3.out Cm.out.1 (by have:=hQ1.out;omega)
     have Lv:¬(r3<kb):=fun h=>oa (hT.1 h)
     have HE:=zH e;have hB:(k:Int)<4294967296:=by have:=hQ1.out;omega
     have d1:decide ((4294967296:Int) <= (k:Int))=false:=decide_eq_false (by omega)
     have d2:decide (4294967296 <= k)=false:=decide_eq_false (by omega)
     have f1:decide ((r3:Int)<(kb:Int))=false:=decide_eq_false (by omega)
     have f2:decide (r3<kb)=false:=decide_eq_false Lv;clear hT e Lv oa;go_wp2_with fail
     go_meet
     exact ⟨by rw [HE.out],rfl⟩
  case rest =>
   obtain ⟨rfl,rfl⟩:=hcut
   go_upto_block 2 with fail
   go_cut [18] (fun s15 wx=>s15= .int .u64 Q0 /\ w1=wx)
   case first =>
    go_wp2_with fail
    go_loop [18,16] (fun x z=>∃ k r:Nat,Hid (k*a <= v1 /\ r=v1-k*a) /\ Q0 <= k /\ k <= 4294967297 /\ r<4294967296 /\ x= .int .u64 k /\ z= .int .u64 r)
     (fun x _=>(intOf x).toNat)
    case atStart=>exact ⟨_,_,Fu,sn,aW.out,hr0.out,rfl,rfl⟩
    case round =>
     obtain ⟨k,r,HK,i1,i2,i3,rfl,rfl⟩:=hrel;have I2:=zH i2;have I3:=zH i3;clear i2 i3;by_cases oa:Q0<k
     ·obtain ⟨k1,r1,m1,m2,Lg,Jd⟩:=YJ (a:=a) HK.out oa I2.out I3.out Qs.out HaT.out
      have HN:=zH (qF HK.out Lg Jd oa);have HF:=zH (fun h1=>ZJ Hm.out Hb.out Qs.out HK.out tl.out.1 Lg Jd oa I2.out h1)
      have Yj:Q0 <= k1:=by omega
      have Xo:=zH (show k1 <= 4294967297 by have:=I2.out;omega)
      have hkd:k1<k:=by omega
      clear Lg Jd;by_cases hB:4294967296 <= k
      ·have b1:¬((k:Int)<4294967296):=by omega
       by_cases hS:4294967296 <= r1
       ·have HS:=zH hS
        have yv:decide ((4294967296:Int) <= (r1:Int))=true:=decide_eq_true (by omega)
        have zv:decide (4294967296 <= r1)=true:=decide_eq_true (by omega)
        clear hS;go_wp2_with fail
        go_meet
        exact ⟨by rw [HF.out HS.out],rfl⟩
       ·have HS:=zH hS
        have yv:decide ((4294967296:Int) <= (r1:Int))=false:=decide_eq_false (by omega)
        have zv:decide (4294967296 <= r1)=false:=decide_eq_false (by omega)
        clear hS;go_wp2_with fail
        go_round
        case rel=>exact ⟨k1,r1,HN.out,Yj,Xo.out,Nat.not_le.1 HS.out,rfl,rfl⟩
        case measure=>simp [intOf];omega
      ·have b2:(k:Int)<4294967296:=by omega
       obtain ⟨kb,r2,r3,n1,n2,n3,hT⟩:=QB Hm.out Hb.out Qs.out Zt.out HK.out I3.out tl.out.1 (by omega)
       have Lv:r3<kb:=hT.2 oa;clear hT;by_cases hS:4294967296 <= r1
       ·have HS:=zH hS
        have yv:decide ((4294967296:Int) <= (r1:Int))=true:=decide_eq_true (by omega)
        have zv:decide (4294967296 <= r1)=true:=decide_eq_true (by omega)
        clear hS;go_wp2_with fail
        go_meet
        exact ⟨by rw [HF.out HS.out],rfl⟩
       ·have HS:=zH hS
        have yv:decide ((4294967296:Int) <= (r1:Int))=false:=decide_eq_false (by omega)
        have zv:decide (4294967296 <= r1)=false:=decide_eq_false (by omega)
        clear hS;go_wp2_with fail
        go_round
        case rel=>exact ⟨k1,r1,HN.out,Yj,Xo.out,Nat.not_le.1 HS.out,rfl,rfl⟩
        case measure=>simp [intOf];omega
     ·have e:k=Q0:=by omega
      obtain ⟨kb,r2,r3,n1,n2,n3,hT⟩:=QB Hm.out Hb.out Qs.out Zt.out HK.out I3.out tl.out.1 (by have:=hQ0.out;omega)
      have Lv:¬(r3<kb):=fun h=>oa (hT.1 h)
      have HE:=zH e;have hB:(k:Int)<4294967296:=by have:=hQ0.out;omega
      have d1:decide ((4294967296:Int) <= (k:Int))=false:=decide_eq_false (by omega)
      have d2:decide (4294967296 <= k)=false:=decide_eq_false (by omega)
      have f1:decide ((r3:Int)<(kb:Int))=false:=decide_eq_false (by omega)
      have f2:decide (r3<kb)=false:=decide_eq_false Lv;clear hT e Lv oa;go_wp2_with fail
      go_meet
      exact ⟨by rw [HE.out],rfl⟩
   case rest =>
    obtain ⟨rfl,rfl⟩:=hcut;go_wp2_with fail
    go_ret2
    exact ⟨rfl,0,rfl⟩
end Go.Proofs.YtjipleoamlmkfaaGreat
