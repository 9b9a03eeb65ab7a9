/- A part of the proof. No condition. -/
import Derived.Shelf.Bits.Mul64
import Derived.Shelf.Small.Bits
import Derived.Shelf.Strconv.Itoa0
import Derived.Test.YtdhhdplholkmdaaGreatProg
import Derived.Test.YtdhhdplholkmdaaGreatPC1
import Derived.BigQuiet
import Derived.Deep.CutBlock
import Derived.Deep.DeepCutAuto
import Derived.Deep.QuietTactic
import Derived.Lib.ItoaNum
import Derived.Outline

namespace Go.Proofs.YtdhhdplholkmdaaGreat
open Go.RowKit
def ren264:Go.Shelf.Ren:=⟨fun | 264=>245 | n=>n,fun | 46=>276 | 53=>22 | n=>n,fun n=>n⟩
theorem zE4:Go.Proofs.Lays.n264 Tryz.prog ren264:={ mixed:=by kernel_rfl,f264:=by kernel_rfl,t46:=by kernel_rfl,a46:=fun _=>by kernel_rfl,z46:=fun _=>by kernel_rfl,v46:=fun _=>by kernel_rfl,t53:=by kernel_rfl,a53:=fun _=>by kernel_rfl,z53:=fun _=>by kernel_rfl,v53:=fun _=>by kernel_rfl }
theorem yl (x y:Nat) (w:World) (hx:x<18446744073709551616) (hy:y<18446744073709551616) :
  Calls Tryz.prog 245 #[.int .u64 x, .int .u64 y] w fun e w'=>e= .returned (.tuple #[.int .u64 ((x*y / 18446744073709551616:Nat):Int), .int .u64 ((x*y%18446744073709551616:Nat):Int)])∧w'=w :=
 Any.bits_Mul64 zE4 x y hx hy w
def ren134:Go.Shelf.Ren:=⟨fun | 129=>250 | 134=>277 | n=>n,fun | 3=>3 | 4=>4 | 5=>5 | 9=>9 | 46=>276 | 53=>22 | n=>n,fun n=>n⟩
theorem zFd:Go.Proofs.Lays.n134 Tryz.prog ren134:={ mixed:=by kernel_rfl,f129:=by kernel_rfl,f134:=by kernel_rfl,t3:=by kernel_rfl,a3:=fun _=>by kernel_rfl,z3:=fun _=>by kernel_rfl,v3:=fun _=>by kernel_rfl,t4:=by kernel_rfl,a4:=fun _=>by kernel_rfl,z4:=fun _=>by kernel_rfl,v4:=fun _=>by kernel_rfl,t5:=by kernel_rfl,a5:=fun _=>by kernel_rfl,z5:=fun _=>by kernel_rfl,v5:=fun _=>by kernel_rfl,t9:=by kernel_rfl,a9:=fun _=>by kernel_rfl,z9:=fun _=>by kernel_rfl,v9:=fun _=>by kernel_rfl,t46:=by kernel_rfl,a46:=fun _=>by kernel_rfl,z46:=fun _=>by kernel_rfl,v46:=fun _=>by kernel_rfl,t53:=by kernel_rfl,a53:=fun _=>by kernel_rfl,z53:=fun _=>by kernel_rfl,v53:=fun _=>by kernel_rfl }
theorem zC5 (x:Int) (w:World) (h0:0≤x) (h1:x≤18446744073709551615) :
  Calls Tryz.prog 277 #[.int .u64 x] w fun e w'=>e= .returned (.int .i64 (64-(Lib.bitLen x.toNat:Int)))∧w'=w:=Any.bits_LeadingZeros64 zFd x w h0 h1
def ren125:Go.Shelf.Ren:=⟨fun | 125=>197 | 128=>249 | 129=>250 | n=>n,fun | 3=>3 | 4=>4 | 5=>5 | 9=>9 | 46=>276 | 51=>311 | 53=>22 | n=>n,fun n=>n⟩
theorem zE3:Go.Proofs.Lays.n125 Tryz.prog ren125:={ mixed:=by kernel_rfl,f125:=by kernel_rfl,f128:=by kernel_rfl,f129:=by kernel_rfl,t3:=by kernel_rfl,a3:=fun _=>by kernel_rfl,z3:=fun _=>by kernel_rfl,v3:=fun _=>by kernel_rfl,t4:=by kernel_rfl,a4:=fun _=>by kernel_rfl,z4:=fun _=>by kernel_rfl,v4:=fun _=>by kernel_rfl,t5:=by kernel_rfl,a5:=fun _=>by kernel_rfl,z5:=fun _=>by kernel_rfl,v5:=fun _=>by kernel_rfl,t9:=by kernel_rfl,a9:=fun _=>by kernel_rfl,z9:=fun _=>by kernel_rfl,v9:=fun _=>by kernel_rfl,t46:=by kernel_rfl,a46:=fun _=>by kernel_rfl,z46:=fun _=>by kernel_rfl,v46:=fun _=>by kernel_rfl,t51:=by kernel_rfl,a51:=fun _=>by kernel_rfl,z51:=fun _=>by kernel_rfl,v51:=fun _=>by kernel_rfl,t53:=by kernel_rfl,a53:=fun _=>by kernel_rfl,z53:=fun _=>by kernel_rfl,v53:=fun _=>by kernel_rfl }
theorem zFg (x:Int) (w:World) (h0:0≤x) (h1:x≤18446744073709551615) :
  Calls Tryz.prog 197 #[.int .u64 x] w fun e w'=>e= .returned (.int .i64 (Lib.bitLen x.toNat))∧w'=w:=Any.bits_Len zE3 x w h0 h1
theorem zE7 {u v y yn1 yn0:Nat} (hy:y=yn1*4294967296+yn0) (hn:yn0<4294967296) (h1:2147483648≤yn1) (hu:u<y) (hv:v<4294967296) :
  (u*4294967296+v) / y≤u / yn1∧u / yn1≤4294967297∧(u*4294967296+v) / y<4294967296:=by
 refine ⟨?_,?_,?_⟩
 ·rw [Nat.le_div_iff_mul_le (by omega)]
  have h2:(u*4294967296+v) / y*y≤u*4294967296+v:=Nat.div_mul_le_self _ _
  generalize (u*4294967296+v) / y=q at *
  have h3:q*y=q*yn1*4294967296+q*yn0:=by rw [hy,Nat.mul_add,Nat.mul_assoc]
  omega
 ·have:u<(4294967298)*yn1:=by omega
  have:=(Nat.div_lt_iff_lt_mul (k:=yn1) (by omega)).2 this
  omega
 ·rw [Nat.div_lt_iff_lt_mul (by omega)]
  have:u+1≤y:=hu
  have h:=Nat.mul_le_mul_right 4294967296 this
  rw [Nat.mul_comm 4294967296 y]
  omega
theorem xT {u v y yn1 yn0 c:Nat} (hy:y=yn1*4294967296+yn0) (h1:2147483648≤yn1) (hc:c*yn1≤u) :
  (4294967296*(u-c*yn1)+v<c*yn0)↔(u*4294967296+v) / y<c:=by
 rw [Nat.div_lt_iff_lt_mul (by omega)]
 have h3:c*y=c*yn1*4294967296+c*yn0:=by rw [hy,Nat.mul_add,Nat.mul_assoc]
 omega
theorem zDd {u v y yn1 yn0 c:Nat} (hy:y=yn1*4294967296+yn0) (hn:yn0<4294967296) (h1:2147483648≤yn1) (hc:c*yn1≤u) (hb:c≤4294967296) (hr:4294967296≤u-c*yn1) (hq:(u*4294967296+v) / y<c+1) :
  c=(u*4294967296+v) / y:=by
 have h:=not_congr (xT (v:=v) hy h1 hc)
 have h5:c*yn0≤4294967296*yn0:=Nat.mul_le_mul_right _ hb
 have h6:¬(4294967296*(u-c*yn1)+v<c*yn0):=by
  have:4294967296*yn0≤4294967296*4294967295:=Nat.mul_le_mul_left _ (by omega)
  have:4294967296*4294967296≤4294967296*(u-c*yn1):=Nat.mul_le_mul_left _ hr
  omega
 have:=h.1 h6
 omega
theorem zCr {X y0 s y u v1 v0 q1 r1 q0 r0:Nat} (hy:y=y0*2^s) (hy0:0<y0) (hU:X*2^s=(u*4294967296+v1)*4294967296+v0)
  (e1:q1=(u*4294967296+v1) / y) (f1:r1=(u*4294967296+v1)%y) (e0:q0=(r1*4294967296+v0) / y) (f0:r0=(r1*4294967296+v0)%y) :
  X / y0=q1*4294967296+q0∧X%y0=r0 / 2^s:=by
 have hp:0<2^s:=Nat.pow_pos (by omega)
 have hyp:0<y:=by rw [hy];exact Nat.mul_pos hy0 hp
 have a1:(u*4294967296+v1)=y*q1+r1:=by rw [e1,f1,Nat.div_add_mod]
 have a0:(r1*4294967296+v0)=y*q0+r0:=by rw [e0,f0,Nat.div_add_mod]
 have hr:r0<y:=by rw [f0];exact Nat.mod_lt _ hyp
 have key:X*2^s=y*(q1*4294967296+q0)+r0:=by
  have e1:y*(q1*4294967296+q0)=y*q1*4294967296+y*q0:=by rw [Nat.mul_add y,Nat.mul_assoc]
  omega
 have hdiv:X / y0=q1*4294967296+q0:=by
  rw [←Nat.mul_div_mul_right X y0 hp,←hy,key,Nat.mul_add_div hyp,Nat.div_eq_of_lt hr,Nat.add_zero]
 refine ⟨hdiv,?_⟩
 have hm:X*2^s%y=r0:=by rw [key,Nat.mul_add_mod,Nat.mod_eq_of_lt hr]
 rw [hy,Nat.mul_mod_mul_right] at hm
 rw [←hm,Nat.mul_div_cancel _ hp]
theorem zAe {y:Nat} (h0:y≠0) (h:y<18446744073709551616):Lib.bitLen y≤64∧9223372036854775808≤y*2^(64-Lib.bitLen y)∧y*2^(64-Lib.bitLen y)<18446744073709551616:=by
 obtain ⟨h1,h2,h3⟩:=Lib.bitLenAux_bounds 64 y h h0
 have h4:Lib.bitLenAux 64 y≤64:=Lib.bitLenAux_le 64 y 64 h
 have e:Lib.bitLen y=Lib.bitLenAux 64 y:=rfl
 rw [e]
 generalize Lib.bitLenAux 64 y=k at *
 have e1:2^(k-1)*2^(64-k)=2^63:=by rw [←Nat.pow_add];congr 1;omega
 have e2:2^k*2^(64-k)=2^64:=by rw [←Nat.pow_add];congr 1;omega
 refine ⟨h4,?_,?_⟩
 ·have:=Nat.mul_le_mul_right (2^(64-k)) h2
  omega
 ·have:=(Nat.mul_lt_mul_right (a:=2^(64-k)) (Nat.pow_pos (by omega))).2 h3
  omega
theorem Y6 (a:Nat) (h:a<18446744073709551616):IntKind.u64.wrap (a:Int)=(a:Int):=by rw [IntKind.wrap_u64];omega
theorem jR (a:Nat):IntKind.u64.wrap (a:Int)=((a%18446744073709551616:Nat):Int):=by rw [IntKind.wrap_u64];omega
theorem yM (a b:Nat) (h:a*b<18446744073709551616):IntKind.u64.wrap ((a:Int)*(b:Int))=((a*b:Nat):Int):=by rw [←Int.natCast_mul,Y6 _ h]
theorem zAr (a b:Nat):IntKind.u64.wrap ((a:Int)*(b:Int))=((a*b%18446744073709551616:Nat):Int):=by rw [←Int.natCast_mul,jR]
theorem yL (a b:Nat) (h:a+b<18446744073709551616):IntKind.u64.wrap ((a:Int)+(b:Int))=((a+b:Nat):Int):=by rw [←Int.natCast_add,Y6 _ h]
theorem zFe (a b:Nat):IntKind.u64.wrap ((a:Int)+(b:Int))=(((a+b)%18446744073709551616:Nat):Int):=by rw [←Int.natCast_add,jR]
theorem Vi (a b:Nat) (h:b≤a) (ha:a<18446744073709551616):IntKind.u64.wrap ((a:Int)-(b:Int))=((a-b:Nat):Int):=by rw [IntKind.wrap_u64];omega
theorem zE0 {X c Z r:Nat} (h:X+c=Z+r) (hr:r<18446744073709551616):IntKind.u64.wrap ((((X%18446744073709551616+c)%18446744073709551616:Nat):Int)-((Z%18446744073709551616:Nat):Int))=(r:Int):=by
 rw [IntKind.wrap_u64];omega
theorem zCx (a b s:Nat) (hs:s≤64) (ha:a*2^s<18446744073709551616) (hb:b<2^s):bits .or .u64 ((a*2^s:Nat):Int) (b:Int)=((a*2^s+b:Nat):Int):=by
 have h1:b<18446744073709551616:=by
  rcases Nat.eq_zero_or_pos a with h0 | h0
  ·subst h0
   have:2^s≤2^64:=Nat.pow_le_pow_right (by omega) hs
   omega
  ·have:2^s≤a*2^s:=Nat.le_mul_of_pos_left _ h0
   omega
 have h:=bits_or_u64_nat (a*2^s) b ha h1
 rw [h,Nat.mul_comm a,Nat.two_pow_add_eq_or_of_lt hb]
theorem zDm (a:Nat) (ha:a<18446744073709551616):bits .and .u64 (a:Int) 4294967295=((a%4294967296:Nat):Int):=by
 have h:=bits_and_u64_nat a 4294967295 ha (by omega)
 have e:a &&& 4294967295=a%4294967296:=Nat.and_two_pow_sub_one_eq_mod a 32
 rw [e] at h
 exact h
theorem K6 {u v Y a b:Nat} (hY:Y=a*4294967296+b) (hb:b<4294967296) (ha:2147483648≤a) (hu:u<Y) (hv:v<4294967296) (hY2:Y<18446744073709551616) :
  ∃ Q r k0 k0a rh U1 U2 U3:Nat,(Q=(u*4294967296+v) / Y∧r=(u*4294967296+v)%Y)∧r<Y∧Q<4294967296∧Q≤k0∧k0≤4294967297∧(k0*a≤u∧rh=u-k0*a)∧rh<4294967296 ∧
   (u:Int) / (a:Int)=(k0:Int)∧IntKind.u64.wrap ((k0:Int)*(a:Int))=(k0a:Int)∧IntKind.u64.wrap ((u:Int)-(k0a:Int))=(rh:Int) ∧
   IntKind.u64.wrap ((u:Int)*4294967296)=(U1:Int)∧IntKind.u64.wrap ((U1:Int)+(v:Int))=(U2:Int)∧IntKind.u64.wrap ((Q:Int)*(Y:Int))=(U3:Int)∧IntKind.u64.wrap ((U2:Int)-(U3:Int))=(r:Int):=by
 obtain ⟨t1,t2,t3⟩:=zE7 hY hb ha hu hv
 have h1:=Nat.div_mul_le_self u a
 have h2:=Nat.mod_lt u (show 0<a by omega)
 have h3:=Nat.div_add_mod u a
 have h4:=Nat.mul_comm a (u / a)
 have hr:=Nat.mod_lt (u*4294967296+v) (show 0<Y by omega)
 have h5:=Nat.div_add_mod (u*4294967296+v) Y
 rw [Nat.mul_comm Y] at h5
 refine ⟨(u*4294967296+v) / Y,(u*4294967296+v)%Y,u / a,u / a*a,u-u / a*a,u*4294967296%18446744073709551616,(u*4294967296%18446744073709551616+v)%18446744073709551616,(u*4294967296+v) / Y*Y%18446744073709551616,
  ⟨rfl,rfl⟩,hr,t3,t1,t2,⟨h1,rfl⟩,by omega,rfl,yM _ _ (by omega),Vi _ _ h1 (by omega),zAr u 4294967296,zFe _ _,zAr _ _,zE0 h5.symm (by omega)⟩
theorem Gx {u a k r Q:Nat} (hK:k*a≤u∧r=u-k*a) (hlt:Q<k) (hk:k≤4294967297) (hr:r<4294967296) (_ha:2147483648≤a) (haT:a<4294967296) :
  ∃ k1 r1:Nat,IntKind.u64.wrap ((k:Int)-1)=(k1:Int)∧IntKind.u64.wrap ((r:Int)+(a:Int))=(r1:Int)∧k=k1+1∧r1=r+a :=
 ⟨k-1,r+a,Vi k 1 (by omega) (by omega),yL _ _ (by omega),by omega,rfl⟩
theorem JE {u a k r k1 r1 Q:Nat} (hK:k*a≤u∧r=u-k*a) (h1:k=k1+1) (h2:r1=r+a) (_hlt:Q<k):k1*a≤u∧r1=u-k1*a:=by
 subst h1
 rw [Nat.add_mul k1 1,Nat.one_mul] at hK
 omega
theorem GD {u v Y a b k r k1 r1 Q:Nat} (hY:Y=a*4294967296+b) (hb:b<4294967296) (ha:2147483648≤a) (hK:k*a≤u∧r=u-k*a) (hQ:Q=(u*4294967296+v) / Y) (h1:k=k1+1) (h2:r1=r+a) (hlt:Q<k) (hk:k≤4294967297) (hS:4294967296≤r1):Q=k1:=by
 obtain ⟨g1,g2⟩:=JE hK h1 h2 hlt
 rw [g2] at hS
 have:=zDd (v:=v) hY hb ha g1 (by omega) hS (by omega)
 omega
theorem Uy {u v Y a b k r Q:Nat} (hY:Y=a*4294967296+b) (hb:b<4294967296) (ha:2147483648≤a) (hv:v<4294967296) (hK:k*a≤u∧r=u-k*a) (hr:r<4294967296) (hQ:Q=(u*4294967296+v) / Y) (hB:k<4294967296) :
  ∃ kb r2 r3:Nat,IntKind.u64.wrap ((k:Int)*(b:Int))=(kb:Int)∧IntKind.u64.wrap (4294967296*(r:Int))=(r2:Int)∧IntKind.u64.wrap ((r2:Int)+(v:Int))=(r3:Int)∧(r3<kb↔Q<k):=by
 have h1:k*b≤4294967295*b:=Nat.mul_le_mul_right _ (by omega)
 have h2:=xT (v:=v) hY ha hK.1
 rw [←hK.2,←hQ] at h2
 exact ⟨k*b,4294967296*r,4294967296*r+v,yM _ _ (by omega),yM 4294967296 r (by omega),yL _ _ (by omega),h2⟩
theorem zBv {h l y s Y:Nat} (hh:h<y) (hl:l<18446744073709551616) (hY:Y=y*2^s) (hs:s≤64) (hy:Y<18446744073709551616) :
  h*2^s<18446744073709551616∧l / 2^(64-s)<2^s∧h*2^s+l / 2^(64-s)<Y ∧
  (h*18446744073709551616+l)*2^s=((h*2^s+l / 2^(64-s))*4294967296+(l*2^s%18446744073709551616) / 4294967296)*4294967296+(l*2^s%18446744073709551616)%4294967296:=by
 have hp:0<2^s:=Nat.pow_pos (by omega)
 have e64:2^(64-s)*2^s=18446744073709551616:=by rw [←Nat.pow_add,show 64-s+s=64 by omega]
 have h1:h*2^s<Y:=by rw [hY];exact (Nat.mul_lt_mul_right hp).2 hh
 have h2:l / 2^(64-s)<2^s:=by rw [Nat.div_lt_iff_lt_mul (Nat.pow_pos (by omega)),Nat.mul_comm,e64];exact hl
 have h3:l*2^s / 18446744073709551616=l / 2^(64-s):=by rw [←e64,Nat.mul_div_mul_right _ _ hp]
 have h4:h*2^s+l / 2^(64-s)<Y:=by
  have:(h+1)*2^s≤Y:=by rw [hY];exact Nat.mul_le_mul_right _ hh
  rw [Nat.add_mul h 1] at this
  omega
 refine ⟨by omega,h2,h4,?_⟩
 rw [←h3,Nat.add_mul (h*18446744073709551616) l,Nat.mul_right_comm]
 generalize l*2^s=A
 generalize h*2^s=C
 omega
set_option maxRecDepth 100000 in
set_option maxHeartbeats 4000000 in
theorem yv (h l y:Nat) (w:World) (hh:h<y) (hl:l<18446744073709551616) (hy:y<18446744073709551616) :
  Calls Tryz.prog 246 #[.int .u64 h, .int .u64 l, .int .u64 y] w fun e w'=>e= .returned (.tuple #[.int .u64 (((h*18446744073709551616+l) / y:Nat):Int), .int .u64 (((h*18446744073709551616+l)%y:Nat):Int)])∧∃ k,w'=w.drewN k:=by
 have g1:((y:Int) == 0)=false:=by rw [beq_eq_false_iff_ne];omega
 by_cases hz:h=0
 ·subst hz
  have g0:decide (y=0)=false:=decide_eq_false (by omega)
  have p1:(0:Int)<(y:Int):=by omega
  have p2:¬((y:Int)=0):=by omega
  have q1:IntKind.u64.wrap ((l:Int) / (y:Int))=((l / y:Nat):Int):=by
   rw [←Int.natCast_ediv,Y6]
   have:=Nat.div_le_self l y
   omega
  have HH:=Lib.hid hh
  clear hh
  go_enter Tryz.func246,Tryz.ntmps246
  go_wp2_with fail
  go_quiet (fail)
  go_wp2
  go_ret2
  refine ⟨?_,_,rfl⟩
  rw [Nat.zero_mul,Nat.zero_add]
  rfl
 ·have g3:((h:Int) == 0)=false:=by rw [beq_eq_false_iff_ne];omega
  have g2:¬(y≤h):=by omega
  obtain ⟨b0,b1,b2⟩:=zAe (y:=y) (by omega) hy
  have HL:=Lib.hid (fun w=>zC5 (y:Int) w (by omega) (by omega))
  rw [Int.toNat_natCast] at HL
  have hs:(64-(Lib.bitLen y:Int))=((64-Lib.bitLen y:Nat):Int):=by omega
  rw [hs] at HL
  clear hs
  revert HL b1 b2
  generalize hs:64-Lib.bitLen y=s
  have hs64:s≤64:=by omega
  clear hs b0
  intro b1 b2 HL
  obtain ⟨Y,hY⟩:∃ Y,Y=y*2^s:=⟨_,rfl⟩
  rw [←hY] at b1 b2
  have e1:IntKind.u64.wrap ((y:Int)*2^s)=(Y:Int):=by
   rw [show ((y:Int)*2^s)=((y*2^s:Nat):Int) by rw [Int.natCast_mul,Int.natCast_pow];rfl,←hY,Y6 _ b2]
  obtain ⟨s1,s2,s3,s4⟩:=zBv hh hl hY hs64 b2
  have e4:IntKind.u64.wrap ((h:Int)*2^s)=((h*2^s:Nat):Int):=by
   rw [show ((h:Int)*2^s)=((h*2^s:Nat):Int) by rw [Int.natCast_mul,Int.natCast_pow];rfl,Y6 _ s1]
  have e5:bits .or .u64 ((h*2^s:Nat):Int) ((l:Int) / 2^(64-s))=((h*2^s+l / 2^(64-s):Nat):Int):=by
   rw [show ((l:Int) / 2^(64-s))=((l / 2^(64-s):Nat):Int) by rw [Int.natCast_ediv,Int.natCast_pow];rfl]
   exact zCx _ _ _ hs64 s1 s2
  have e6:IntKind.u64.wrap ((l:Int)*2^s)=((l*2^s%18446744073709551616:Nat):Int):=by
   rw [show ((l:Int)*2^s)=((l*2^s:Nat):Int) by rw [Int.natCast_mul,Int.natCast_pow];rfl,jR]
  have HR:Hid (∀ q1 r1 q0 r0,q1=((h*2^s+l / 2^(64-s))*4294967296+(l*2^s%18446744073709551616) / 4294967296) / Y →
    r1=((h*2^s+l / 2^(64-s))*4294967296+(l*2^s%18446744073709551616) / 4294967296)%Y→q0=(r1*4294967296+(l*2^s%18446744073709551616)%4294967296) / Y →
    r0=(r1*4294967296+(l*2^s%18446744073709551616)%4294967296)%Y→(h*18446744073709551616+l) / y=q1*4294967296+q0∧(h*18446744073709551616+l)%y=r0 / 2^s) :=
   fun q1 r1 q0 r0 f1 f2 f3 f4=>zCr hY (by omega) s4 f1 f2 f3 f4
  clear s1 s2 s4
  revert HR e4 e5 e6 s3
  generalize h*2^s=H
  generalize H+l / 2^(64-s)=u
  have hL:l*2^s%18446744073709551616<18446744073709551616:=Nat.mod_lt _ (by omega)
  revert hL
  generalize l*2^s%18446744073709551616=L
  intro hL s3 e4 e5 e6 HR
  have e7:(L:Int) / 4294967296=((L / 4294967296:Nat):Int):=rfl
  have e8:=zDm L hL
  have hc:L / 4294967296<4294967296:=by omega
  have hd:L%4294967296<4294967296:=by omega
  revert e7 e8 hc hd HR
  generalize L / 4294967296=c
  generalize L%4294967296=d
  intro HR e7 e8 hc hd
  have e2:(Y:Int) / 4294967296=((Y / 4294967296:Nat):Int):=rfl
  have e3:=zDm Y b2
  have ha31:2147483648≤Y / 4294967296:=by omega
  have hb:Y%4294967296<4294967296:=by omega
  have HYab:=Lib.hid (show Y=Y / 4294967296*4294967296+Y%4294967296 by omega)
  revert e2 e3 ha31 hb HYab
  generalize Y / 4294967296=a
  generalize Y%4294967296=b
  intro e2 e3 ha31 hb HYab
  have HY:=Lib.hid hY
  clear hY hL
  have p1:(0:Int)<(a:Int):=by omega
  have p2:¬((a:Int)=0):=by omega
  have haT:a<4294967296:=by have:=HYab.out;omega
  obtain ⟨Q1,v1,k0,k0a,rh0,U1,U2,U3,HQ1,hw1,hQ1,hq1,hk1,HA1,hr1,x1,x2,x3,x4,x5,x6,x7⟩:=K6 HYab.out hb ha31 s3 hc b2
  obtain ⟨Q0,v0,l0,l0a,rh1,V1,V2,V3,HQ0,hw0,hQ0,hq0,hk0,HA0,hr0,y1,y2,y3,y4,y5,y6,y7⟩:=K6 HYab.out hb ha31 hw1 hd b2
  have HX:=Lib.hid (HR.out Q1 v1 Q0 v0 HQ1.1 HQ1.2 HQ0.1 HQ0.2)
  obtain ⟨R,hR⟩:∃ R,R=v0 / 2^s:=⟨_,rfl⟩
  obtain ⟨M1,hM1⟩:∃ M1,M1=Q1*4294967296:=⟨_,rfl⟩
  obtain ⟨M,hM⟩:∃ M,M=M1+Q0:=⟨_,rfl⟩
  have z1:IntKind.u64.wrap ((Q1:Int)*4294967296)=(M1:Int):=by rw [hM1];exact yM Q1 4294967296 (by omega)
  have z2:IntKind.u64.wrap ((M1:Int)+(Q0:Int))=(M:Int):=by rw [hM];exact yL _ _ (by omega)
  have z3:(v0:Int) / 2^s=(R:Int):=by rw [hR,Int.natCast_ediv,Int.natCast_pow];rfl
  rw [←hR,←hM1,←hM] at HX
  clear hR hM1 hM
  have hv1:=Lib.hid hc
  have hv0:=Lib.hid hd
  have Hb:=Lib.hid hb
  have Ha31:=Lib.hid ha31
  have HaT:=Lib.hid haT
  replace hQ1:=Lib.hid hQ1
  replace hQ0:=Lib.hid hQ0
  replace hk1:=Lib.hid hk1
  replace hk0:=Lib.hid hk0
  replace hr1:=Lib.hid hr1
  replace hr0:=Lib.hid hr0
  replace b1:=Lib.hid b1
  replace b2:=Lib.hid b2
  have xk1:IntKind.u64.wrap (k0:Int)=(k0:Int):=Y6 _ (by have:=hk1.out;omega)
  have xk0:IntKind.u64.wrap (l0:Int)=(l0:Int):=Y6 _ (by have:=hk0.out;omega)
  clear hc hd hb ha31 haT
  replace HQ1:=Lib.hid HQ1
  replace HQ0:=Lib.hid HQ0
  replace HA1:=Lib.hid HA1
  replace HA0:=Lib.hid HA0
  clear HR hl hy s3
  rw [HX.out.1,HX.out.2]
  go_enter Tryz.func246,Tryz.ntmps246
  go_upto_block 0 with (go_at_call 277;refine (HL.out _).mono ?_;rintro e w1 ⟨rfl,rfl⟩)
  go_cut [15] (fun s15 wx=>s15= .int .u64 (Q1:Int)∧w1=wx)
  case first =>
   go_wp2_with fail
   go_loop [15,16] (fun x z=>∃ k r:Nat,Hid (k*a≤u∧r=u-k*a)∧Q1≤k∧k≤4294967297∧r<4294967296∧x= .int .u64 (k:Int)∧z= .int .u64 (r:Int))
    (fun x _=>(intOf x).toNat)
   case atStart=>exact ⟨_,_,HA1,hq1,hk1.out,hr1.out,rfl,rfl⟩
   case round =>
    obtain ⟨k,r,HK,i1,i2,i3,rfl,rfl⟩:=hrel
    have I2:=Lib.hid i2
    have I3:=Lib.hid i3
    clear i2 i3
    by_cases hlt:Q1<k
    ·obtain ⟨k1,r1,m1,m2,hk1,hr1⟩:=Gx (a:=a) HK.out hlt I2.out I3.out Ha31.out HaT.out
     have HN:=Lib.hid (JE HK.out hk1 hr1 hlt)
     have HF:=Lib.hid (fun h1=>GD HYab.out Hb.out Ha31.out HK.out HQ1.out.1 hk1 hr1 hlt I2.out h1)
     have hq1:Q1≤k1:=by omega
     have hkk:=Lib.hid (show k1≤4294967297 by have:=I2.out;omega)
     have hkd:k1<k:=by omega
     clear hk1 hr1
     by_cases hB:4294967296≤k
     ·have b1:¬((k:Int)<4294967296):=by omega
      by_cases hS:4294967296≤r1
      ·have HS:=Lib.hid hS
       have dr11:decide ((4294967296:Int)≤(r1:Int))=true:=decide_eq_true (by omega)
       have dr12:decide (4294967296≤r1)=true:=decide_eq_true (by omega)
       clear hS
       go_wp2_with fail
       go_meet
       exact ⟨by rw [HF.out HS.out],rfl⟩
      ·have HS:=Lib.hid hS
       have dr11:decide ((4294967296:Int)≤(r1:Int))=false:=decide_eq_false (by omega)
       have dr12:decide (4294967296≤r1)=false:=decide_eq_false (by omega)
       clear hS
       go_wp2_with fail
       go_round
       case rel=>exact ⟨k1,r1,HN.out,hq1,hkk.out,Nat.not_le.1 HS.out,rfl,rfl⟩
       case measure=>simp [intOf];omega
     ·have b2:(k:Int)<4294967296:=by omega
      obtain ⟨kb,r2,r3,n1,n2,n3,hT⟩:=Uy HYab.out Hb.out Ha31.out hv1.out HK.out I3.out HQ1.out.1 (by omega)
      have hT':r3<kb:=hT.2 hlt
      clear hT
      by_cases hS:4294967296≤r1
      ·have HS:=Lib.hid hS
       have dr11:decide ((4294967296:Int)≤(r1:Int))=true:=decide_eq_true (by omega)
       have dr12:decide (4294967296≤r1)=true:=decide_eq_true (by omega)
       clear hS
       go_wp2_with fail
       go_meet
       exact ⟨by rw [HF.out HS.out],rfl⟩
      ·have HS:=Lib.hid hS
       have dr11:decide ((4294967296:Int)≤(r1:Int))=false:=decide_eq_false (by omega)
       have dr12:decide (4294967296≤r1)=false:=decide_eq_false (by omega)
       clear hS
       go_wp2_with fail
       go_round
       case rel=>exact ⟨k1,r1,HN.out,hq1,hkk.out,Nat.not_le.1 HS.out,rfl,rfl⟩
       case measure=>simp [intOf];omega
    ·have e:k=Q1:=by omega
     obtain ⟨kb,r2,r3,n1,n2,n3,hT⟩:=Uy HYab.out Hb.out Ha31.out hv1.out HK.out I3.out HQ1.out.1 (by have:=hQ1.out;omega)
     have hT':¬(r3<kb):=fun h=>hlt (hT.1 h)
     have HE:=Lib.hid e
     have hB:(k:Int)<4294967296:=by have:=hQ1.out;omega
     have d1:decide ((4294967296:Int)≤(k:Int))=false:=decide_eq_false (by omega)
     have d2:decide (4294967296≤k)=false:=decide_eq_false (by omega)
     have f1:decide ((r3:Int)<(kb:Int))=false:=decide_eq_false (by omega)
     have f2:decide (r3<kb)=false:=decide_eq_false hT'
     clear hT e hT' hlt
     go_wp2_with fail
     go_meet
     exact ⟨by rw [HE.out],rfl⟩
  case rest =>
   obtain ⟨rfl,rfl⟩:=hcut
   go_upto_block 2 with fail
   go_cut [18] (fun s15 wx=>s15= .int .u64 (Q0:Int)∧w1=wx)
   case first =>
    go_wp2_with fail
    go_loop [18,16] (fun x z=>∃ k r:Nat,Hid (k*a≤v1∧r=v1-k*a)∧Q0≤k∧k≤4294967297∧r<4294967296∧x= .int .u64 (k:Int)∧z= .int .u64 (r:Int))
     (fun x _=>(intOf x).toNat)
    case atStart=>exact ⟨_,_,HA0,hq0,hk0.out,hr0.out,rfl,rfl⟩
    case round =>
     obtain ⟨k,r,HK,i1,i2,i3,rfl,rfl⟩:=hrel
     have I2:=Lib.hid i2
     have I3:=Lib.hid i3
     clear i2 i3
     by_cases hlt:Q0<k
     ·obtain ⟨k1,r1,m1,m2,hk1,hr1⟩:=Gx (a:=a) HK.out hlt I2.out I3.out Ha31.out HaT.out
      have HN:=Lib.hid (JE HK.out hk1 hr1 hlt)
      have HF:=Lib.hid (fun h1=>GD HYab.out Hb.out Ha31.out HK.out HQ0.out.1 hk1 hr1 hlt I2.out h1)
      have hq1:Q0≤k1:=by omega
      have hkk:=Lib.hid (show k1≤4294967297 by have:=I2.out;omega)
      have hkd:k1<k:=by omega
      clear hk1 hr1
      by_cases hB:4294967296≤k
      ·have b1:¬((k:Int)<4294967296):=by omega
       by_cases hS:4294967296≤r1
       ·have HS:=Lib.hid hS
        have dr11:decide ((4294967296:Int)≤(r1:Int))=true:=decide_eq_true (by omega)
        have dr12:decide (4294967296≤r1)=true:=decide_eq_true (by omega)
        clear hS
        go_wp2_with fail
        go_meet
        exact ⟨by rw [HF.out HS.out],rfl⟩
       ·have HS:=Lib.hid hS
        have dr11:decide ((4294967296:Int)≤(r1:Int))=false:=decide_eq_false (by omega)
        have dr12:decide (4294967296≤r1)=false:=decide_eq_false (by omega)
        clear hS
        go_wp2_with fail
        go_round
        case rel=>exact ⟨k1,r1,HN.out,hq1,hkk.out,Nat.not_le.1 HS.out,rfl,rfl⟩
        case measure=>simp [intOf];omega
      ·have b2:(k:Int)<4294967296:=by omega
       obtain ⟨kb,r2,r3,n1,n2,n3,hT⟩:=Uy HYab.out Hb.out Ha31.out hv0.out HK.out I3.out HQ0.out.1 (by omega)
       have hT':r3<kb:=hT.2 hlt
       clear hT
       by_cases hS:4294967296≤r1
       ·have HS:=Lib.hid hS
        have dr11:decide ((4294967296:Int)≤(r1:Int))=true:=decide_eq_true (by omega)
        have dr12:decide (4294967296≤r1)=true:=decide_eq_true (by omega)
        clear hS
        go_wp2_with fail
        go_meet
        exact ⟨by rw [HF.out HS.out],rfl⟩
       ·have HS:=Lib.hid hS
        have dr11:decide ((4294967296:Int)≤(r1:Int))=false:=decide_eq_false (by omega)
        have dr12:decide (4294967296≤r1)=false:=decide_eq_false (by omega)
        clear hS
        go_wp2_with fail
        go_round
        case rel=>exact ⟨k1,r1,HN.out,hq1,hkk.out,Nat.not_le.1 HS.out,rfl,rfl⟩
        case measure=>simp [intOf];omega
     ·have e:k=Q0:=by omega
      obtain ⟨kb,r2,r3,n1,n2,n3,hT⟩:=Uy HYab.out Hb.out Ha31.out hv0.out HK.out I3.out HQ0.out.1 (by have:=hQ0.out;omega)
      have hT':¬(r3<kb):=fun h=>hlt (hT.1 h)
      have HE:=Lib.hid e
      have hB:(k:Int)<4294967296:=by have:=hQ0.out;omega
      have d1:decide ((4294967296:Int)≤(k:Int))=false:=decide_eq_false (by omega)
      have d2:decide (4294967296≤k)=false:=decide_eq_false (by omega)
      have f1:decide ((r3:Int)<(kb:Int))=false:=decide_eq_false (by omega)
      have f2:decide (r3<kb)=false:=decide_eq_false hT'
      clear hT e hT' hlt
      go_wp2_with fail
      go_meet
      exact ⟨by rw [HE.out],rfl⟩
   case rest =>
    obtain ⟨rfl,rfl⟩:=hcut
    go_wp2_with fail
    go_ret2
    exact ⟨rfl,0,rfl⟩
end Go.Proofs.YtdhhdplholkmdaaGreat
