/- A part of the proof. No condition. -/
import Derived.Shelf.Bits.Mul64
import Derived.Shelf.Small.Bits
import Derived.Shelf.Strconv.Itoa0
import Derived.Test.YtgeofabpinfcmaaGreatProg
import Derived.Test.YtgeofabpinfcmaaGreatEZ1
import Derived.BigQuiet
import Derived.Deep.CutBlock
import Derived.Deep.DeepCutAuto
import Derived.Deep.QuietTactic
import Derived.Lib.ItoaNum
import Derived.Outline
import Derived.Deep.RegionHeld3

set_option maxRecDepth 100000
set_option maxHeartbeats 8000000
set_option linter.unusedVariables false
set_option linter.unusedSimpArgs false
namespace Go.Proofs.YtgeofabpinfcmaaGreat
open Go.RowKit
def T0:Go.Shelf.Ren:=⟨fun | 264=>241 | n=>n,fun | 46=>284 | 53=>22 | n=>n,fun n=>n⟩
theorem xX:Go.Proofs.Lays.n264 Tryz.prog T0:={ mixed:=by kernel_rfl,f264:=by kernel_rfl,t46:=by kernel_rfl,a46:=fun _=>by kernel_rfl,z46:=fun _=>by kernel_rfl,v46:=fun _=>by kernel_rfl,t53:=by kernel_rfl,a53:=fun _=>by kernel_rfl,z53:=fun _=>by kernel_rfl,v53:=fun _=>by kernel_rfl }
theorem DQ (x y:Nat) (w:World) (hx:x<18446744073709551616) (hy:y<18446744073709551616) :
  Calls Tryz.prog 241 #[.int .u64 x, .int .u64 y] w fun e w'=>e= .returned (.tuple #[.int .u64 ((x*y / 18446744073709551616:Nat):Int), .int .u64 ((x*y%18446744073709551616:Nat):Int)]) /\ w'=w :=
 Any.bits_Mul64 xX x y hx hy w
def N0:Go.Shelf.Ren:=⟨fun | 129=>260 | 134=>273 | n=>n,fun | 3=>3 | 4=>4 | 5=>5 | 9=>9 | 46=>284 | 53=>22 | n=>n,fun n=>n⟩
theorem uX:Go.Proofs.Lays.n134 Tryz.prog N0:={ mixed:=by kernel_rfl,f129:=by kernel_rfl,f134:=by kernel_rfl,t3:=by kernel_rfl,a3:=fun _=>by kernel_rfl,z3:=fun _=>by kernel_rfl,v3:=fun _=>by kernel_rfl,t4:=by kernel_rfl,a4:=fun _=>by kernel_rfl,z4:=fun _=>by kernel_rfl,v4:=fun _=>by kernel_rfl,t5:=by kernel_rfl,a5:=fun _=>by kernel_rfl,z5:=fun _=>by kernel_rfl,v5:=fun _=>by kernel_rfl,t9:=by kernel_rfl,a9:=fun _=>by kernel_rfl,z9:=fun _=>by kernel_rfl,v9:=fun _=>by kernel_rfl,t46:=by kernel_rfl,a46:=fun _=>by kernel_rfl,z46:=fun _=>by kernel_rfl,v46:=fun _=>by kernel_rfl,t53:=by kernel_rfl,a53:=fun _=>by kernel_rfl,z53:=fun _=>by kernel_rfl,v53:=fun _=>by kernel_rfl }
theorem IX (x:Int) (w:World) (h0:0 <= x) (h1:x <= 18446744073709551615) :
  Calls Tryz.prog 273 #[.int .u64 x] w fun e w'=>e= .returned (.int .i64 (64-(Lib.bitLen x.toNat:Int))) /\ w'=w:=Any.bits_LeadingZeros64 uX x w h0 h1
theorem zV {u v y Tj vp:Nat} (hy:y=Tj*4294967296+vp) (hn:vp<4294967296) (h1:2147483648 <= Tj) (hu:u<y) (hv:v<4294967296) :
  (u*4294967296+v) / y <= u / Tj /\ u / Tj <= 4294967297 /\ (u*4294967296+v) / y<4294967296:=by
 refine ⟨?_,?_,?_⟩
 ·rw [Nat.le_div_iff_mul_le (by omega)]
  have h2:(u*4294967296+v) / y*y <= u*4294967296+v:=Nat.div_mul_le_self _ _;generalize (u*4294967296+v) / y=q at *;have h3:q*y=q*Tj*4294967296+q*vp:=by rw [hy,Nat.mul_add,Nat.mul_assoc]
  omega
 ·have:u<(4294967298)*Tj:=by omega
  have:=(Nat.div_lt_iff_lt_mul (k:=Tj) (by omega)).2 this
  omega
 ·rw [Nat.div_lt_iff_lt_mul (by omega)]
  have:u+1 <= y:=hu;have h:=Nat.mul_le_mul_right 4294967296 this;rw [Nat.mul_comm 4294967296 y];omega
theorem OO {u v y Tj vp c:Nat} (hy:y=Tj*4294967296+vp) (h1:2147483648 <= Tj) (hc:c*Tj <= u) :
  (4294967296*(u-c*Tj)+v<c*vp)↔(u*4294967296+v) / y<c:=by
 rw [Nat.div_lt_iff_lt_mul (by omega)]
 have h3:c*y=c*Tj*4294967296+c*vp:=by rw [hy,Nat.mul_add,Nat.mul_assoc]
 omega
theorem yV {u v y Tj vp c:Nat} (hy:y=Tj*4294967296+vp) (hn:vp<4294967296) (h1:2147483648 <= Tj) (hc:c*Tj <= u) (hb:c <= 4294967296) (hr:4294967296 <= u-c*Tj) (hq:(u*4294967296+v) / y<c+1) :
  c=(u*4294967296+v) / y:=by
 have h:=not_congr (OO (v:=v) hy h1 hc);have h5:c*vp <= 4294967296*vp:=Nat.mul_le_mul_right _ hb;have h6:¬(4294967296*(u-c*Tj)+v<c*vp):=by
  have:4294967296*vp <= 4294967296*4294967295:=Nat.mul_le_mul_left _ (by omega)
  have:4294967296*4294967296 <= 4294967296*(u-c*Tj):=Nat.mul_le_mul_left _ hr;omega
 have:=h.1 h6;omega
theorem AV {X y0 s y u v1 v0 q1 r1 q0 r0:Nat} (hy:y=y0*2^s) (Mj:0<y0) (hU:X*2^s=(u*4294967296+v1)*4294967296+v0)
  (e1:q1=(u*4294967296+v1) / y) (f1:r1=(u*4294967296+v1)%y) (e0:q0=(r1*4294967296+v0) / y) (f0:r0=(r1*4294967296+v0)%y) :
  X / y0=q1*4294967296+q0 /\ X%y0=r0 / 2^s:=by
 have hp:0<2^s:=Nat.pow_pos (by omega)
 have hyp:0<y:=by rw [hy];exact Nat.mul_pos Mj hp
 have a1:(u*4294967296+v1)=y*q1+r1:=by rw [e1,f1,Nat.div_add_mod]
 have a0:(r1*4294967296+v0)=y*q0+r0:=by rw [e0,f0,Nat.div_add_mod]
 have hr:r0<y:=by rw [f0];exact Nat.mod_lt _ hyp
 have key:X*2^s=y*(q1*4294967296+q0)+r0:=by
  have e1:y*(q1*4294967296+q0)=y*q1*4294967296+y*q0:=by rw [Nat.mul_add y,Nat.mul_assoc]
  omega
 have hdiv:X / y0=q1*4294967296+q0:=by
  rw [<- Nat.mul_div_mul_right X y0 hp,<- hy,key,Nat.mul_add_div hyp,Nat.div_eq_of_lt hr,Nat.add_zero]
 refine ⟨hdiv,?_⟩;have hm:X*2^s%y=r0:=by rw [key,Nat.mul_add_mod,Nat.mod_eq_of_lt hr]
 rw [hy,Nat.mul_mod_mul_right] at hm;rw [<- hm,Nat.mul_div_cancel _ hp]
theorem RU {y:Nat} (h0:y≠0) (h:y<18446744073709551616):Lib.bitLen y <= 64 /\ 9223372036854775808 <= y*2^(64-Lib.bitLen y) /\ y*2^(64-Lib.bitLen y)<18446744073709551616:=by
 obtain ⟨h1,h2,h3⟩:=Lib.bitLenAux_bounds 64 y h h0;have h4:Lib.bitLenAux 64 y <= 64:=Lib.bitLenAux_le 64 y 64 h;have e:Lib.bitLen y=Lib.bitLenAux 64 y:=rfl;rw [e];generalize Lib.bitLenAux 64 y=k at *;have e1:2^(k-1)*2^(64-k)=2^63:=by rw [<- Nat.pow_add];congr 1;omega
 have e2:2^k*2^(64-k)=2^64:=by rw [<- Nat.pow_add];congr 1;omega
 refine ⟨h4,?_,?_⟩
 ·have:=Nat.mul_le_mul_right (2^(64-k)) h2
  omega
 ·have:=(Nat.mul_lt_mul_right (a:=2^(64-k)) (Nat.pow_pos (by omega))).2 h3
  omega
theorem pj (a:Nat) (h:a<18446744073709551616):IntKind.u64.wrap (a:Int)=(a:Int):=by rw [IntKind.wrap_u64];omega
theorem LN (a:Nat):IntKind.u64.wrap (a:Int)=((a%18446744073709551616:Nat):Int):=by rw [IntKind.wrap_u64];omega
theorem iJ (a b:Nat) (h:a*b<18446744073709551616):IntKind.u64.wrap ((a:Int)*(b:Int))=((a*b:Nat):Int):=by rw [<- Int.natCast_mul,pj _ h]
theorem tU (a b:Nat):IntKind.u64.wrap ((a:Int)*(b:Int))=((a*b%18446744073709551616:Nat):Int):=by rw [<- Int.natCast_mul,LN]
theorem fJ (a b:Nat) (h:a+b<18446744073709551616):IntKind.u64.wrap ((a:Int)+(b:Int))=((a+b:Nat):Int):=by rw [<- Int.natCast_add,pj _ h]
theorem Z6 (a b:Nat):IntKind.u64.wrap ((a:Int)+(b:Int))=(((a+b)%18446744073709551616:Nat):Int):=by rw [<- Int.natCast_add,LN]
theorem Un (a b:Nat) (h:b <= a) (ha:a<18446744073709551616):IntKind.u64.wrap ((a:Int)-(b:Int))=((a-b:Nat):Int):=by rw [IntKind.wrap_u64];omega
theorem a7 {X c Z r:Nat} (h:X+c=Z+r) (hr:r<18446744073709551616):IntKind.u64.wrap ((((X%18446744073709551616+c)%18446744073709551616:Nat):Int)-((Z%18446744073709551616:Nat):Int))=(r:Int):=by
 rw [IntKind.wrap_u64];omega
theorem kY (a b s:Nat) (hs:s <= 64) (ha:a*2^s<18446744073709551616) (hb:b<2^s):bits .or .u64 ((a*2^s:Nat):Int) (b:Int)=((a*2^s+b:Nat):Int):=by
 have h1:b<18446744073709551616:=by
  rcases Nat.eq_zero_or_pos a with h0 | h0
  ·subst h0
   have:2^s <= 2^64:=Nat.pow_le_pow_right (by omega) hs
   omega
  ·have:2^s <= a*2^s:=Nat.le_mul_of_pos_left _ h0
   omega
 have h:=bits_or_u64_nat (a*2^s) b ha h1;rw [h,Nat.mul_comm a,Nat.two_pow_add_eq_or_of_lt hb]
theorem yQ (a:Nat) (ha:a<18446744073709551616):bits .and .u64 (a:Int) 4294967295=((a%4294967296:Nat):Int):=by
 have h:=bits_and_u64_nat a 4294967295 ha (by omega)
 have e:a &&& 4294967295=a%4294967296:=Nat.and_two_pow_sub_one_eq_mod a 32;rw [e] at h;exact h
theorem PO {u v Y a b:Nat} (hY:Y=a*4294967296+b) (hb:b<4294967296) (ha:2147483648 <= a) (hu:u<Y) (hv:v<4294967296) (hY2:Y<18446744073709551616) :
  ∃ Q r k0 k0a rh U1 U2 U3:Nat,(Q=(u*4294967296+v) / Y /\ r=(u*4294967296+v)%Y) /\ r<Y /\ Q<4294967296 /\ Q <= k0 /\ k0 <= 4294967297 /\ (k0*a <= u /\ rh=u-k0*a) /\ rh<4294967296 /\
   (u:Int) / (a:Int)=(k0:Int) /\ IntKind.u64.wrap ((k0:Int)*(a:Int))=(k0a:Int) /\ IntKind.u64.wrap ((u:Int)-(k0a:Int))=(rh:Int) /\
   IntKind.u64.wrap ((u:Int)*4294967296)=(U1:Int) /\ IntKind.u64.wrap ((U1:Int)+(v:Int))=(U2:Int) /\ IntKind.u64.wrap ((Q:Int)*(Y:Int))=(U3:Int) /\ IntKind.u64.wrap ((U2:Int)-(U3:Int))=(r:Int):=by
 obtain ⟨t1,t2,t3⟩:=zV hY hb ha hu hv;have h1:=Nat.div_mul_le_self u a;have h2:=Nat.mod_lt u (show 0<a by omega)
 have h3:=Nat.div_add_mod u a;have h4:=Nat.mul_comm a (u / a);have hr:=Nat.mod_lt (u*4294967296+v) (show 0<Y by omega)
 have h5:=Nat.div_add_mod (u*4294967296+v) Y;rw [Nat.mul_comm Y] at h5;refine ⟨(u*4294967296+v) / Y,(u*4294967296+v)%Y,u / a,u / a*a,u-u / a*a,u*4294967296%18446744073709551616,(u*4294967296%18446744073709551616+v)%18446744073709551616,(u*4294967296+v) / Y*Y%18446744073709551616,
  ⟨rfl,rfl⟩,hr,t3,t1,t2,⟨h1,rfl⟩,by omega,rfl,iJ _ _ (by omega),Un _ _ h1 (by omega),tU u 4294967296,Z6 _ _,tU _ _,a7 h5.symm (by omega)⟩
theorem JS {u a k r Q:Nat} (hK:k*a <= u /\ r=u-k*a) (za:Q<k) (hk:k <= 4294967297) (hr:r<4294967296) (_ha:2147483648 <= a) (haT:a<4294967296) :
  ∃ k1 r1:Nat,IntKind.u64.wrap ((k:Int)-1)=(k1:Int) /\ IntKind.u64.wrap ((r:Int)+(a:Int))=(r1:Int) /\ k=k1+1 /\ r1=r+a :=
 ⟨k-1,r+a,Un k 1 (by omega) (by omega),fJ _ _ (by omega),by omega,rfl⟩
theorem JM {u a k r k1 r1 Q:Nat} (hK:k*a <= u /\ r=u-k*a) (h1:k=k1+1) (h2:r1=r+a) (_hlt:Q<k):k1*a <= u /\ r1=u-k1*a:=by
 subst h1;rw [Nat.add_mul k1 1,Nat.one_mul] at hK;omega
theorem KS {u v Y a b k r k1 r1 Q:Nat} (hY:Y=a*4294967296+b) (hb:b<4294967296) (ha:2147483648 <= a) (hK:k*a <= u /\ r=u-k*a) (hQ:Q=(u*4294967296+v) / Y) (h1:k=k1+1) (h2:r1=r+a) (za:Q<k) (hk:k <= 4294967297) (hS:4294967296 <= r1):Q=k1:=by
 obtain ⟨g1,g2⟩:=JM hK h1 h2 za;rw [g2] at hS;have:=yV (v:=v) hY hb ha g1 (by omega) hS (by omega)
 omega
theorem AI {u v Y a b k r Q:Nat} (hY:Y=a*4294967296+b) (hb:b<4294967296) (ha:2147483648 <= a) (hv:v<4294967296) (hK:k*a <= u /\ r=u-k*a) (hr:r<4294967296) (hQ:Q=(u*4294967296+v) / Y) (hB:k<4294967296) :
  ∃ kb r2 r3:Nat,IntKind.u64.wrap ((k:Int)*(b:Int))=(kb:Int) /\ IntKind.u64.wrap (4294967296*(r:Int))=(r2:Int) /\ IntKind.u64.wrap ((r2:Int)+(v:Int))=(r3:Int) /\ (r3<kb↔Q<k):=by
 have h1:k*b <= 4294967295*b:=Nat.mul_le_mul_right _ (by omega)
 have h2:=OO (v:=v) hY ha hK.1;rw [<- hK.2,<- hQ] at h2;exact ⟨k*b,4294967296*r,4294967296*r+v,iJ _ _ (by omega),iJ 4294967296 r (by omega),fJ _ _ (by omega),h2⟩
theorem BV {h l y s Y:Nat} (hh:h<y) (hl:l<18446744073709551616) (hY:Y=y*2^s) (hs:s <= 64) (hy:Y<18446744073709551616) :
  h*2^s<18446744073709551616 /\ l / 2^(64-s)<2^s /\ h*2^s+l / 2^(64-s)<Y /\
  (h*18446744073709551616+l)*2^s=((h*2^s+l / 2^(64-s))*4294967296+(l*2^s%18446744073709551616) / 4294967296)*4294967296+(l*2^s%18446744073709551616)%4294967296:=by
 have hp:0<2^s:=Nat.pow_pos (by omega)
 have e64:2^(64-s)*2^s=18446744073709551616:=by rw [<- Nat.pow_add,show 64-s+s=64 by omega]
 have h1:h*2^s<Y:=by rw [hY];exact (Nat.mul_lt_mul_right hp).2 hh
 have h2:l / 2^(64-s)<2^s:=by rw [Nat.div_lt_iff_lt_mul (Nat.pow_pos (by omega)),Nat.mul_comm,e64];exact hl
 have h3:l*2^s / 18446744073709551616=l / 2^(64-s):=by rw [<- e64,Nat.mul_div_mul_right _ _ hp]
 have h4:h*2^s+l / 2^(64-s)<Y:=by
  have:(h+1)*2^s <= Y:=by rw [hY];exact Nat.mul_le_mul_right _ hh
  rw [Nat.add_mul h 1] at this;omega
 refine ⟨by omega,h2,h4,?_⟩
 rw [<- h3,Nat.add_mul (h*18446744073709551616) l,Nat.mul_right_comm];generalize l*2^s=A;generalize h*2^s=C;omega
theorem QO (h l y:Nat) (w:World) (hh:h<y) (hl:l<18446744073709551616) (hy:y<18446744073709551616) :
  Calls Tryz.prog 242 #[.int .u64 h, .int .u64 l, .int .u64 y] w fun e w'=>e= .returned (.tuple #[.int .u64 (((h*18446744073709551616+l) / y:Nat):Int), .int .u64 (((h*18446744073709551616+l)%y:Nat):Int)]) /\ ∃ k,w'=w.drewN k:=by
 have g1:((y:Int) == 0)=false:=by rw [beq_eq_false_iff_ne];omega
 by_cases hz:h=0
 ·subst hz
  have g0:decide (y=0)=false:=decide_eq_false (by omega)
  have p1:(0:Int)<(y:Int):=by omega
  have p2:¬((y:Int)=0):=by omega
  have q1:IntKind.u64.wrap ((l:Int) / (y:Int))=((l / y:Nat):Int):=by
   rw [<- Int.natCast_ediv,pj];have:=Nat.div_le_self l y;omega
  have HH:=zH hh;clear hh;go_enter Tryz.func242,Tryz.ntmps242
  go_wp2_with fail
  go_quiet (fail)
  go_wp2
  go_ret2
  refine ⟨?_,_,rfl⟩;rw [Nat.zero_mul,Nat.zero_add]
  rfl
 ·have g3:((h:Int) == 0)=false:=by rw [beq_eq_false_iff_ne];omega
  have g2:¬(y <= h):=by omega
  obtain ⟨b0,b1,b2⟩:=RU (y:=y) (by omega) hy
  have HL:=zH (fun w=>IX (y:Int) w (by omega) (by omega))
  rw [Int.toNat_natCast] at HL;have hs:(64-(Lib.bitLen y:Int))=((64-Lib.bitLen y:Nat):Int):=by omega
  rw [hs] at HL;clear hs;revert HL b1 b2
  generalize hs:64-Lib.bitLen y=s;have hs64:s <= 64:=by omega
  clear hs b0;intro b1 b2 HL;obtain ⟨Y,hY⟩:=zEX (y*2^s);rw [<- hY] at b1 b2;have e1:IntKind.u64.wrap ((y:Int)*2^s)=(Y:Int):=by
   rw [show ((y:Int)*2^s)=((y*2^s:Nat):Int) by rw [Int.natCast_mul,Int.natCast_pow];rfl,<- hY,pj _ b2]
  obtain ⟨s1,s2,s3,s4⟩:=BV hh hl hY hs64 b2;have e4:IntKind.u64.wrap ((h:Int)*2^s)=((h*2^s:Nat):Int):=by
   rw [show ((h:Int)*2^s)=((h*2^s:Nat):Int) by rw [Int.natCast_mul,Int.natCast_pow];rfl,pj _ s1]
  have e5:bits .or .u64 ((h*2^s:Nat):Int) ((l:Int) / 2^(64-s))=((h*2^s+l / 2^(64-s):Nat):Int):=by
   rw [show ((l:Int) / 2^(64-s))=((l / 2^(64-s):Nat):Int) by rw [Int.natCast_ediv,Int.natCast_pow];rfl]
   exact kY _ _ _ hs64 s1 s2
  have e6:IntKind.u64.wrap ((l:Int)*2^s)=((l*2^s%18446744073709551616:Nat):Int):=by
   rw [show ((l:Int)*2^s)=((l*2^s:Nat):Int) by rw [Int.natCast_mul,Int.natCast_pow];rfl,LN]
  have HR:Hid (∀ q1 r1 q0 r0,q1=((h*2^s+l / 2^(64-s))*4294967296+(l*2^s%18446744073709551616) / 4294967296) / Y ->
    r1=((h*2^s+l / 2^(64-s))*4294967296+(l*2^s%18446744073709551616) / 4294967296)%Y -> q0=(r1*4294967296+(l*2^s%18446744073709551616)%4294967296) / Y ->
    r0=(r1*4294967296+(l*2^s%18446744073709551616)%4294967296)%Y -> (h*18446744073709551616+l) / y=q1*4294967296+q0 /\ (h*18446744073709551616+l)%y=r0 / 2^s) :=
   fun q1 r1 q0 r0 f1 f2 f3 f4=>AV hY (by omega) s4 f1 f2 f3 f4
  clear s1 s2 s4;revert HR e4 e5 e6 s3
  generalize h*2^s=H;generalize H+l / 2^(64-s)=u;have hL:l*2^s%18446744073709551616<18446744073709551616:=Nat.mod_lt _ (by omega)
  revert hL
  generalize l*2^s%18446744073709551616=L;intro hL s3 e4 e5 e6 HR;have e7:(L:Int) / 4294967296=((L / 4294967296:Nat):Int):=rfl;have e8:=yQ L hL;have hc:L / 4294967296<4294967296:=by omega
  have hd:L%4294967296<4294967296:=by omega
  revert e7 e8 hc hd HR
  generalize L / 4294967296=c;generalize L%4294967296=d;intro HR e7 e8 hc hd;have e2:(Y:Int) / 4294967296=((Y / 4294967296:Nat):Int):=rfl;have e3:=yQ Y b2;have UD:2147483648 <= Y / 4294967296:=by omega
  have hb:Y%4294967296<4294967296:=by omega
  have ss:=zH (show Y=Y / 4294967296*4294967296+Y%4294967296 by omega)
  revert e2 e3 UD hb ss
  generalize Y / 4294967296=a;generalize Y%4294967296=b;intro e2 e3 UD hb ss;have HY:=zH hY;clear hY hL;have p1:(0:Int)<(a:Int):=by omega
  have p2:¬((a:Int)=0):=by omega
  have haT:a<4294967296:=by have:=ss.out;omega
  obtain ⟨Q1,v1,k0,k0a,rh0,U1,U2,U3,Vr,ai,hQ1,Xf,Ld,Xd,ij,x1,x2,x3,x4,x5,x6,x7⟩:=PO ss.out hb UD s3 hc b2;obtain ⟨Q0,v0,l0,l0a,rh1,V1,V2,V3,du,vj,hQ0,hq0,iz,HA0,ZB,y1,y2,y3,y4,y5,y6,y7⟩:=PO ss.out hb UD ai hd b2;have HX:=zH (HR.out Q1 v1 Q0 v0 Vr.1 Vr.2 du.1 du.2);obtain ⟨R,hR⟩:=zEX (v0 / 2^s);obtain ⟨M1,yB⟩:=zEX (Q1*4294967296);obtain ⟨M,hM⟩:=zEX (M1+Q0);have z1:IntKind.u64.wrap ((Q1:Int)*4294967296)=(M1:Int):=by rw [yB];exact iJ Q1 4294967296 (by omega)
  have z2:IntKind.u64.wrap ((M1:Int)+(Q0:Int))=(M:Int):=by rw [hM];exact fJ _ _ (by omega)
  have z3:(v0:Int) / 2^s=(R:Int):=by rw [hR,Int.natCast_ediv,Int.natCast_pow];rfl
  rw [<- hR,<- yB,<- hM] at HX;clear hR yB hM;have Ng:=zH hc;have So:=zH hd;have Hb:=zH hb;have qy:=zH UD;have HaT:=zH haT;replace hQ1:=zH hQ1;replace hQ0:=zH hQ0;replace Ld:=zH Ld;replace iz:=zH iz;replace ij:=zH ij;replace ZB:=zH ZB;replace b1:=zH b1;replace b2:=zH b2;have xk1:IntKind.u64.wrap (k0:Int)=(k0:Int):=pj _ (by have:=Ld.out;omega)
  have xk0:IntKind.u64.wrap (l0:Int)=(l0:Int):=pj _ (by have:=iz.out;omega)
  clear hc hd hb UD haT;replace Vr:=zH Vr;replace du:=zH du;replace Xd:=zH Xd;replace HA0:=zH HA0;clear HR hl hy s3;rw [HX.out.1,HX.out.2];go_enter Tryz.func242,Tryz.ntmps242
  go_upto_block 0 with (go_at_call 273;refine (HL.out _).mono ?_;rintro e w1 ⟨rfl,rfl⟩)
  go_cut [15] (fun s15 wx=>s15= .int .u64 Q1 /\ w1=wx)
  case first =>
   go_wp2_with fail
   go_loop [15,16] (fun x z=>∃ k r:Nat,Hid (k*a <= u /\ r=u-k*a) /\ Q1 <= k /\ k <= 4294967297 /\ r<4294967296 /\ x= .int .u64 k /\ z= .int .u64 r)
    (fun x _=>(intOf x).toNat)
   case atStart=>exact ⟨_,_,Xd,Xf,Ld.out,ij.out,rfl,rfl⟩
   case round =>
    obtain ⟨k,r,HK,i1,i2,i3,rfl,rfl⟩:=hrel;have I2:=zH i2;have I3:=zH i3;clear i2 i3;by_cases za:Q1<k
    ·obtain ⟨k1,r1,m1,m2,Ld,ij⟩:=JS (a:=a) HK.out za I2.out I3.out qy.out HaT.out
     have HN:=zH (JM HK.out Ld ij za);have HF:=zH (fun h1=>KS ss.out Hb.out qy.out HK.out Vr.out.1 Ld ij za I2.out h1)
     have Xf:Q1 <= k1:=by omega
     have tg:=zH (show k1 <= 4294967297 by have:=I2.out;omega)
     have hkd:k1<k:=by omega
     clear Ld ij;by_cases hB:4294967296 <= k
     ·have b1:¬((k:Int)<4294967296):=by omega
      by_cases hS:4294967296 <= r1
      ·have HS:=zH hS
       have RA:decide ((4294967296:Int) <= (r1:Int))=true:=decide_eq_true (by omega)
       have TA:decide (4294967296 <= r1)=true:=decide_eq_true (by omega)
       clear hS;go_wp2_with fail
       go_meet
       exact ⟨by rw [HF.out HS.out],rfl⟩
      ·have HS:=zH hS
       have RA:decide ((4294967296:Int) <= (r1:Int))=false:=decide_eq_false (by omega)
       have TA:decide (4294967296 <= r1)=false:=decide_eq_false (by omega)
       clear hS;go_wp2_with fail
       go_round
       case rel=>exact ⟨k1,r1,HN.out,Xf,tg.out,Nat.not_le.1 HS.out,rfl,rfl⟩
       case measure=>simp [intOf];omega
     ·have b2:(k:Int)<4294967296:=by omega
      obtain ⟨kb,r2,r3,n1,n2,n3,hT⟩:=AI ss.out Hb.out qy.out Ng.out HK.out I3.out Vr.out.1 (by omega)
      have BB:r3<kb:=hT.2 za;clear hT;by_cases hS:4294967296 <= r1
      ·have HS:=zH hS
       have RA:decide ((4294967296:Int) <= (r1:Int))=true:=decide_eq_true (by omega)
       have TA:decide (4294967296 <= r1)=true:=decide_eq_true (by omega)
       clear hS;go_wp2_with fail
       go_meet
       exact ⟨by rw [HF.out HS.out],rfl⟩
      ·have HS:=zH hS
       have RA:decide ((4294967296:Int) <= (r1:Int))=false:=decide_eq_false (by omega)
       have TA:decide (4294967296 <= r1)=false:=decide_eq_false (by omega)
       clear hS;go_wp2_with fail
       go_round
       case rel=>exact ⟨k1,r1,HN.out,Xf,tg.out,Nat.not_le.1 HS.out,rfl,rfl⟩
       case measure=>simp [intOf];omega
    ·have e:k=Q1:=by omega
     obtain ⟨kb,r2,r3,n1,n2,n3,hT⟩:=AI ss.out Hb.out qy.out Ng.out HK.out I3.out Vr.out.1 (by have:=hQ1.out;omega)
     have BB:¬(r3<kb):=fun h=>za (hT.1 h)
     have HE:=zH e;have hB:(k:Int)<4294967296:=by have:=hQ1.out;omega
     have d1:decide ((4294967296:Int) <= (k:Int))=false:=decide_eq_false (by omega)
     have d2:decide (4294967296 <= k)=false:=decide_eq_false (by omega)
     have f1:decide ((r3:Int)<(kb:Int))=false:=decide_eq_false (by omega)
     have f2:decide (r3<kb)=false:=decide_eq_false BB;clear hT e BB za;go_wp2_with fail
     go_meet
     exact ⟨by rw [HE.out],rfl⟩
  case rest =>
   obtain ⟨rfl,rfl⟩:=hcut
   go_upto_block 2 with fail
   go_cut [18] (fun s15 wx=>s15= .int .u64 Q0 /\ w1=wx)
   case first =>
    go_wp2_with fail
    go_loop [18,16] (fun x z=>∃ k r:Nat,Hid (k*a <= v1 /\ r=v1-k*a) /\ Q0 <= k /\ k <= 4294967297 /\ r<4294967296 /\ x= .int .u64 k /\ z= .int .u64 r)
     (fun x _=>(intOf x).toNat)
    case atStart=>exact ⟨_,_,HA0,hq0,iz.out,ZB.out,rfl,rfl⟩
    case round =>
     obtain ⟨k,r,HK,i1,i2,i3,rfl,rfl⟩:=hrel;have I2:=zH i2;have I3:=zH i3;clear i2 i3;by_cases za:Q0<k
     ·obtain ⟨k1,r1,m1,m2,Ld,ij⟩:=JS (a:=a) HK.out za I2.out I3.out qy.out HaT.out
      have HN:=zH (JM HK.out Ld ij za);have HF:=zH (fun h1=>KS ss.out Hb.out qy.out HK.out du.out.1 Ld ij za I2.out h1)
      have Xf:Q0 <= k1:=by omega
      have tg:=zH (show k1 <= 4294967297 by have:=I2.out;omega)
      have hkd:k1<k:=by omega
      clear Ld ij;by_cases hB:4294967296 <= k
      ·have b1:¬((k:Int)<4294967296):=by omega
       by_cases hS:4294967296 <= r1
       ·have HS:=zH hS
        have RA:decide ((4294967296:Int) <= (r1:Int))=true:=decide_eq_true (by omega)
        have TA:decide (4294967296 <= r1)=true:=decide_eq_true (by omega)
        clear hS;go_wp2_with fail
        go_meet
        exact ⟨by rw [HF.out HS.out],rfl⟩
       ·have HS:=zH hS
        have RA:decide ((4294967296:Int) <= (r1:Int))=false:=decide_eq_false (by omega)
        have TA:decide (4294967296 <= r1)=false:=decide_eq_false (by omega)
        clear hS;go_wp2_with fail
        go_round
        case rel=>exact ⟨k1,r1,HN.out,Xf,tg.out,Nat.not_le.1 HS.out,rfl,rfl⟩
        case measure=>simp [intOf];omega
      ·have b2:(k:Int)<4294967296:=by omega
       obtain ⟨kb,r2,r3,n1,n2,n3,hT⟩:=AI ss.out Hb.out qy.out So.out HK.out I3.out du.out.1 (by omega)
       have BB:r3<kb:=hT.2 za;clear hT;by_cases hS:4294967296 <= r1
       ·have HS:=zH hS
        have RA:decide ((4294967296:Int) <= (r1:Int))=true:=decide_eq_true (by omega)
        have TA:decide (4294967296 <= r1)=true:=decide_eq_true (by omega)
        clear hS;go_wp2_with fail
        go_meet
        exact ⟨by rw [HF.out HS.out],rfl⟩
       ·have HS:=zH hS
        have RA:decide ((4294967296:Int) <= (r1:Int))=false:=decide_eq_false (by omega)
        have TA:decide (4294967296 <= r1)=false:=decide_eq_false (by omega)
        clear hS;go_wp2_with fail
        go_round
        case rel=>exact ⟨k1,r1,HN.out,Xf,tg.out,Nat.not_le.1 HS.out,rfl,rfl⟩
        case measure=>simp [intOf];omega
     ·have e:k=Q0:=by omega
      obtain ⟨kb,r2,r3,n1,n2,n3,hT⟩:=AI ss.out Hb.out qy.out So.out HK.out I3.out du.out.1 (by have:=hQ0.out;omega)
      have BB:¬(r3<kb):=fun h=>za (hT.1 h)
      have HE:=zH e;have hB:(k:Int)<4294967296:=by have:=hQ0.out;omega
      have d1:decide ((4294967296:Int) <= (k:Int))=false:=decide_eq_false (by omega)
      have d2:decide (4294967296 <= k)=false:=decide_eq_false (by omega)
      have f1:decide ((r3:Int)<(kb:Int))=false:=decide_eq_false (by omega)
      have f2:decide (r3<kb)=false:=decide_eq_false BB;clear hT e BB za;go_wp2_with fail
      go_meet
      exact ⟨by rw [HE.out],rfl⟩
   case rest =>
    obtain ⟨rfl,rfl⟩:=hcut;go_wp2_with fail
    go_ret2
    exact ⟨rfl,0,rfl⟩
structure Oe (R:World -> World -> Prop):Prop where
 refl:∀ w,R w w
 trans:∀ a b c,R a b -> R b c -> R a c
def Ib (w w':World):Prop:=Below w.heap.size w w'
theorem xa:Oe Ib:=⟨fun w=>Below.refl _ w,fun _ _ _ h k=>oa h k⟩
def jn (g:Nat) (w w':World):Prop:=w.grownBy w' (some g)
theorem Zo (g:Nat):Oe (jn g):=⟨fun w=>Hf w _,fun _ _ _ h k=>Ky h k fun _ e=>.inl e⟩
section
variable {P:Program} {ops:Array Oper} {Q:Exit -> Act -> World -> Prop} {R:World -> World -> Prop}
theorem WI {S S':World -> Prop} (hS:∀ w,S' w -> S w):∀ (fuel:Nat) (Ca:Array Bool) (a:Act) (w:World),wpAnyH P .any ops Q S' fuel Ca a w -> wpAnyH P .any ops Q S fuel Ca a w
 | 0,_,_,_,h=>h
 | fuel+1,_,_,_,h=>⟨h.1,fun i hi=>wpOp_mono (fun a' w' h'=>⟨hS _ h'.1,WI hS fuel _ a' w' h'.2⟩) (h.2 i hi)⟩
def Ci (P:Program) (ops:Array Oper) (Q:Exit -> Act -> World -> Prop) (R:World -> World -> Prop) (fuel:Nat) (Ca:Array Bool) (a:Act) (w:World):Prop :=
 wpAnyH P .any ops Q (R w) fuel Ca a w
theorem AE {id:Nat} {a:Act} {w:World} {l:List Oper} (R:World -> World -> Prop) (hm:P.follows .mixedOrders=true) (h:Ci P l.toArray Q R l.length (List.replicate l.length false).toArray a w.drew):(Code.region id l.toArray true).wp P Q a w:=by
 refine wp_region_held (S:=R w.drew) hm ?_;have e:Array.replicate l.toArray.size false=(List.replicate l.length false).toArray:=by simp
 rw [e]
 simpa [Ci] using h
theorem IN {fuel:Nat} {Ca:Array Bool} {a:Act} {w:World} (hr:Region.ready .any ops Ca=[]) (h:Q .normal a w):Ci P ops Q R fuel Ca a w:=wpAnyH_done hr h fuel
end
section
variable {P:Program} {l:List Oper} {Q:Exit -> Act -> World -> Prop} {R:World -> World -> Prop}
theorem Qh (i:Nat) {v:Value} {fuel:Nat} {Ca:Array Bool} {a:Act} {w:World} (M:Oe R) (za:i<l.length)
  (hs:Region.noSelect l.toArray=true) (hf:Region.free .any l.toArray Ca i=true) (hr:(Region.ready .any l.toArray Ca).contains i=true)
  (hQ:∀ c a w,Q (.panic c) (a.put l[i].dst v) w -> Q (.panic c) a w)
  (hy:(Region.wanted l[i] (yielded l.toArray a.tmps)=true /\ ∀ w',R w w' -> (execOp a.eval l[i]).run P w'= .ok (.value v) w') \/ (Region.wanted l[i] (yielded l.toArray a.tmps)=false /\ v=undef))
  (h:Ci P l.toArray Q R fuel (Ca.setIfInBounds i true) (a.put l[i].dst v) w):Ci P l.toArray Q R (fuel+1) Ca a w :=
 wpAnyH_take (i:=i) (oi:=l[i]) (by simp [za]) hs hf hr hQ hy (M.refl w) h
theorem oU (i:Nat) {fuel:Nat} {Ca:Array Bool} {a:Act} {w:World} (M:Oe R) (za:i<l.length) (hr:Region.ready .any l.toArray Ca=[i])
  (hw:Region.wanted l[i] (yielded l.toArray a.tmps)=true)
  (h:l[i].wp P a w (fun a' w'=>R w w' /\ Ci P l.toArray Q R fuel (Ca.setIfInBounds i true) a' w') Q):Ci P l.toArray Q R (fuel+1) Ca a w:=by
 refine ⟨fun h0=>absurd (hr ▸ h0) (by simp),fun j hj=>?_⟩
 rw [hr,List.mem_singleton] at hj;subst hj;unfold wpOp;have hi:l.toArray[j]?=some l[j]:=by simp [za]
 simp only [hi,hw,if_true];exact .inl (Oper.wp_mono (fun a' w' h'=>⟨h'.1,WI (fun w2 h2=>M.trans _ _ _ h'.1 h2) _ _ _ _ h'.2⟩) h)
theorem aJ (i:Nat) {f:FuncId} {vals:Array Value} {fuel:Nat} {Ca:Array Bool} {a:Act} {w:World} (M:Oe R) (za:i<l.length) (hr:Region.ready .any l.toArray Ca=[i])
  (hw:Region.wanted l[i] (yielded l.toArray a.tmps)=true)
  (h:Calls P f vals w fun e w'=>∃ v,e= .returned v /\ R w w' /\ Ci P l.toArray Q R fuel (Ca.setIfInBounds i true) (a.put l[i].dst v) w')
  (Re:∀ w,(execOp a.eval l[i]).run P w= .ok (.enter f vals) w):Ci P l.toArray Q R (fuel+1) Ca a w:=by
 refine oU i M za hr hw ?_;unfold Oper.wp;rw [Re w];refine Calls.mono h ?_;rintro e w' ⟨v,rfl,h1,h2⟩;exact ⟨h1,h2⟩
end
section
variable {P:Program} {l:List Oper} {Q:Exit -> Act -> World -> Prop} {R:World -> World -> Prop}
def Ox (P:Program) (l:List Oper) (Q:Exit -> Act -> World -> Prop) (R:World -> World -> Prop) (i:Nat) (fuel:Nat) (Ca:Array Bool) (a:Act) (w:World):Prop :=
 ∃ (h:i<l.length),Region.wanted l[i] (yielded l.toArray a.tmps)=true /\ l[i].wp P a w (fun a' w'=>R w w' /\ Ci P l.toArray Q R fuel (Ca.setIfInBounds i true) a' w') Q
theorem JN {i fuel:Nat} {Ca:Array Bool} {a:Act} {w:World} (M:Oe R) (h:Ox P l Q R i fuel Ca a w):wpOp P l.toArray Q i (fun a' w'=>R w w' /\ wpAnyH P .any l.toArray Q (R w) fuel (Ca.setIfInBounds i true) a' w') a w:=by
 obtain ⟨za,hw,h⟩:=h;unfold wpOp;have hi:l.toArray[i]?=some l[i]:=by simp [za]
 simp only [hi,hw,if_true];exact .inl (Oper.wp_mono (fun a' w' h'=>⟨h'.1,WI (fun w2 h2=>M.trans _ _ _ h'.1 h2) _ _ _ _ h'.2⟩) h)
theorem dJ (i j:Nat) {fuel:Nat} {Ca:Array Bool} {a:Act} {w:World} (M:Oe R) (hr:Region.ready .any l.toArray Ca=[i,j])
  (h1:Ox P l Q R i fuel Ca a w) (h2:Ox P l Q R j fuel Ca a w):Ci P l.toArray Q R (fuel+1) Ca a w:=by
 refine ⟨fun h0=>absurd (hr ▸ h0) (by simp),fun k hk=>?_⟩
 rw [hr] at hk;simp at hk
 rcases hk with rfl | rfl
 ·exact JN M h1
 ·exact JN M h2
theorem bJ (i:Nat) {fuel:Nat} {Ca:Array Bool} {a:Act} {w:World} (M:Oe R) (hr:Region.ready .any l.toArray Ca=[i])
  (h1:Ox P l Q R i fuel Ca a w):Ci P l.toArray Q R (fuel+1) Ca a w:=by
 refine ⟨fun h0=>absurd (hr ▸ h0) (by simp),fun k hk=>?_⟩
 rw [hr] at hk;simp at hk
 subst hk;exact JN M h1
theorem pU {i:Nat} {f:FuncId} {vals:Array Value} {fuel:Nat} {Ca:Array Bool} {a:Act} {w:World} (za:i<l.length) (hw:Region.wanted l[i] (yielded l.toArray a.tmps)=true)
  (h:Calls P f vals w fun e w'=>∃ v,e= .returned v /\ R w w' /\ Ci P l.toArray Q R fuel (Ca.setIfInBounds i true) (a.put l[i].dst v) w')
  (Re:∀ w,(execOp a.eval l[i]).run P w= .ok (.enter f vals) w):Ox P l Q R i fuel Ca a w:=by
 refine ⟨za,hw,?_⟩;unfold Oper.wp;rw [Re w];refine Calls.mono h ?_;rintro e w' ⟨v,rfl,h1,h2⟩;exact ⟨h1,h2⟩
end
theorem tp {P:Program} {o:Oper} {ops:Array Oper} {a:Act} {v:Value} {R:World -> World -> Prop} {w:World} (hw:Region.wanted o (yielded ops a.tmps)=true) (h:∀ w',R w w' -> (execOp a.eval o).run P w'= .ok (.value v) w') :
  (Region.wanted o (yielded ops a.tmps)=true /\ ∀ w',R w w' -> (execOp a.eval o).run P w'= .ok (.value v) w') \/ (Region.wanted o (yielded ops a.tmps)=false /\ v=undef):=.inl ⟨hw,h⟩
def Su (l:List Oper) (hs:List Nat):List Nat -> Array Bool -> Bool
 | [],Ca=>(Region.ready .any l.toArray Ca).isEmpty
 | i :: rest,Ca=>decide (i<l.length)&&Region.free .any l.toArray Ca i&&(Region.ready .any l.toArray Ca).contains i &&
   (!hs.contains i||Region.ready .any l.toArray Ca == [i])&&Su l hs rest (Ca.setIfInBounds i true)
def fm (P:Program) (l:List Oper) (hs:List Nat) (Q:Exit -> Act -> World -> Prop) (R:World -> World -> Prop) (order:List Nat) (Ca:Array Bool) (a:Act) (w:World):Prop :=
 Region.noSelect l.toArray=true -> Su l hs order Ca=true -> Ci P l.toArray Q R order.length Ca a w
section
variable {P:Program} {l:List Oper} {hs:List Nat} {Q:Exit -> Act -> World -> Prop} {R:World -> World -> Prop} {rest:List Nat} {i:Nat} {o:Oper} {Ca:Array Bool} {a:Act} {w:World}
theorem Rc {id:Nat} (R:World -> World -> Prop) (hs order:List Nat) (hm:P.follows .mixedOrders=true) (Ta:(Region.noSelect l.toArray&&order.length == l.length&&Su l hs order (List.replicate l.length false).toArray)=true)
  (h:fm P l hs Q R order (List.replicate l.length false).toArray a w.drew):(Code.region id l.toArray true).wp P Q a w:=by
 simp only [Bool.and_eq_true,beq_iff_eq] at Ta;refine AE R hm ?_;rw [<- Ta.1.2];have:=h Ta.1.1 Ta.2
 rwa [Ta.1.2] at this |-
theorem qG (M:Oe R) {order:List Nat} (h:∀ W,R w W -> fm P l hs Q R order Ca a W):fm P l hs Q R order Ca a w:=h w (M.refl w)
theorem Fc (h:Q .normal a w):fm P l hs Q R [] Ca a w:=fun _ Ta=>IN (by simpa [Su] using Ta) h
theorem QL (h:Su l hs (i :: rest) Ca=true):i<l.length /\ Region.free .any l.toArray Ca i=true /\ (Region.ready .any l.toArray Ca).contains i=true /\
  (hs.contains i=true -> Region.ready .any l.toArray Ca=[i]) /\ Su l hs rest (Ca.setIfInBounds i true)=true:=by
 unfold Su at h;simp only [Bool.and_eq_true,Bool.or_eq_true,Bool.not_eq_true',decide_eq_true_eq,beq_iff_eq] at h;obtain ⟨⟨⟨⟨h1,h2⟩,h3⟩,h4⟩,h5⟩:=h;refine ⟨h1,h2,h3,fun h6=>?_,h5⟩
 rcases h4 with h4 | h4
 ·rw [h6] at h4;cases h4
 ·exact h4
theorem Dl {h:i<l.length} (ho:l[i]?=some o):l[i]=o:=by
 rw [List.getElem?_eq_getElem h] at ho
 injection ho
theorem lD {v:Value} (M:Oe R) (ho:l[i]?=some o) (hw:Region.wanted o (yielded l.toArray a.tmps)=true) (hQ:∀ c a w,Q (.panic c) (a.put o.dst v) w -> Q (.panic c) a w)
  (Re:∀ w',R w w' -> (execOp a.eval o).run P w'= .ok (.value v) w') (h:fm P l hs Q R rest (Ca.setIfInBounds i true) (a.put o.dst v) w):fm P l hs Q R (i :: rest) Ca a w:=by
 intro hn Ta;obtain ⟨h1,h2,h3,-,h5⟩:=QL Ta;have e:=Dl (h:=h1) ho;subst e;exact Qh i M h1 hn h2 h3 hQ (.inl ⟨hw,Re⟩) (h hn h5)
theorem mD (M:Oe R) (ho:l[i]?=some o) (hw:Region.wanted o (yielded l.toArray a.tmps)=false) (hQ:∀ c a w,Q (.panic c) (a.put o.dst undef) w -> Q (.panic c) a w)
  (h:fm P l hs Q R rest (Ca.setIfInBounds i true) (a.put o.dst undef) w):fm P l hs Q R (i :: rest) Ca a w:=by
 intro hn Ta;obtain ⟨h1,h2,h3,-,h5⟩:=QL Ta;have e:=Dl (h:=h1) ho;subst e;exact Qh i M h1 hn h2 h3 hQ (.inr ⟨hw,rfl⟩) (h hn h5)
theorem Ug (M:Oe R) (hh:hs.contains i=true) (ho:l[i]?=some o) (hw:Region.wanted o (yielded l.toArray a.tmps)=true)
  (h:o.wp P a w (fun a' w'=>R w w' /\ fm P l hs Q R rest (Ca.setIfInBounds i true) a' w') Q):fm P l hs Q R (i :: rest) Ca a w:=by
 intro hn Ta;obtain ⟨h1,-,-,h4,h5⟩:=QL Ta;have e:=Dl (h:=h1) ho;subst e;exact oU i M h1 (h4 hh) hw (Oper.wp_mono (fun a' w' h'=>⟨h'.1,h'.2 hn h5⟩) h)
theorem Mb {f:FuncId} {vals:Array Value} (M:Oe R) (hh:hs.contains i=true) (ho:l[i]?=some o) (hw:Region.wanted o (yielded l.toArray a.tmps)=true)
  (Re:∀ w,(execOp a.eval o).run P w= .ok (.enter f vals) w)
  (h:Calls P f vals w fun e w'=>∃ v,e= .returned v /\ R w w' /\ fm P l hs Q R rest (Ca.setIfInBounds i true) (a.put o.dst v) w'):fm P l hs Q R (i :: rest) Ca a w:=by
 refine Ug M hh ho hw ?_;unfold Oper.wp;rw [Re w];refine Calls.mono h ?_;rintro e w' ⟨v,rfl,h1,h2⟩;exact ⟨h1,h2⟩
end
theorem JH {w w':World} (h:Ib w.drew w'):∀ b o,b<w.heap.size -> w'.cell? ⟨b,o,none⟩=w.cell? ⟨b,o,none⟩:=fun b o hb=>Below.cell h (p:=⟨b,o,none⟩) hb
theorem iR {g:Nat} {w w':World} (h:jn g w w'):∀ b o,b<w.heap.size -> b≠g -> w'.cell? ⟨b,o,none⟩=w.cell? ⟨b,o,none⟩:=fun b o hb Bb=>by
 have:=h.block b hb (fun e=>Bb (by injection e))
 simp only [World.cell?,this]
theorem jY {g:Nat} {w w':World} (h:jn g w.drew w'):∀ b o,b<w.heap.size -> b≠g -> w'.cell? ⟨b,o,none⟩=w.cell? ⟨b,o,none⟩:=fun b o hb Bb=>iR h b o hb Bb
def KE (g i:Nat) (w w':World):Prop:=w.grownBy w' (some g) /\ ∀ t cs,Blk w g t cs -> ∃ v,Blk w' g t (cs.setIfInBounds i v)
theorem On (g i:Nat):Oe (KE g i):=by
 refine ⟨fun w=>⟨Hf w _,fun t cs h=>⟨cs.getD i undef,?_⟩⟩,fun a b c h k=>⟨Ky h.1 k.1 fun _ e=>.inl e,fun t cs hb=>?_⟩⟩
 ·have e:cs.setIfInBounds i (cs.getD i undef)=cs:=by
   apply Array.ext
   ·simp
   ·intro j h1 h2
    rw [Array.getElem_setIfInBounds]
    ·split
     ·subst_vars
      simp [h2]
     ·rfl
  rw [e];exact h
 ·obtain ⟨v,hv⟩:=h.2 t cs hb
  obtain ⟨u,hu⟩:=k.2 t _ hv;exact ⟨u,by simpa using hu⟩
theorem eR {g i:Nat} (w:World) (v:Value):KE g i w (w.setCell ⟨g,i,none⟩ v):=⟨mh (p:=⟨g,i,none⟩) (Hf w _) (.inl rfl) v,fun _ _ hb=>⟨v,hb.set_ i v⟩⟩
theorem bR {g i:Nat} {w w':World} (h:KE g i w.drew w'):∀ b o,b<w.heap.size -> b≠g -> w'.cell? ⟨b,o,none⟩=w.cell? ⟨b,o,none⟩:=fun b o hb Bb=>iR (w:=w.drew) h.1 b o hb Bb
theorem dR {g i:Nat} {w w':World} {t:TypeId} {cs:Array Value} (h:KE g i w.drew w') (k:Blk w g t cs):∀ j,j≠i -> w'.cell? ⟨g,j,none⟩=cs[j]?:=fun j hj=>by
 obtain ⟨v,hv⟩:=h.2 t cs k;rw [hv.cell j,Array.getElem?_setIfInBounds,if_neg (fun e=>hj e.symm)]
theorem Cc {w c:World} (h:Hid (c=w.drew)):Below w.heap.size w c:=by rw [h.out];exact (Below.refl _ _).drew
def Imp (a b:Prop):Prop:=a -> b
theorem Imp.via {a b c:Prop} (f:b -> c) (h:Imp a b):Imp a c:=fun x=>f (h x)
theorem Imp.rfl' {a:Prop}:Imp a a:=id
theorem Oz {a b:Prop} (h:a) (s:Imp a b:=by
 (repeat ((first | (apply Imp.via (mD (Zo _) rfl rfl (fun _ _ _ h=>h))) | (apply Imp.via (lD (v:=?_) (Zo _) rfl rfl (fun _ _ _ h=>h) ?hr);case hr=>(intro w' hR;(first | have Bn:=jY ((Zo _).trans _ _ _ ja hR) | skip);go_simp;try with_reducible rfl)));simp only [Act.put,zLa,zLb,zLc]))
 exact Imp.rfl'):b:=s h
theorem pb {a b:Prop} (h:a) (s:Imp a b:=by
 (repeat ((first | (apply Imp.via (mD (xa) rfl rfl (fun _ _ _ h=>h))) | (apply Imp.via (lD (v:=?_) (xa) rfl rfl (fun _ _ _ h=>h) ?hr);case hr=>(intro w' hR;(first | have Bn:=JH ((xa).trans _ _ _ ja hR) | skip);go_simp;try with_reducible rfl)));simp only [Act.put,zLa,zLb,zLc]))
 exact Imp.rfl'):b:=s h
end Go.Proofs.YtgeofabpinfcmaaGreat
