/- A part of the proof. No condition. -/
import Derived.Test.YteoghgbnielkpaaGreatTB2
import Derived.Test.YteoghgbnielkpaaGreatTB3
import Derived.Shelf.Spec.BitsCarry
import Derived.Laws.OwnMore
import Derived.StillTailTactics
import Derived.Maps.OwnOps
import Derived.Maps.OwnSet

set_option maxRecDepth 100000
set_option maxHeartbeats 8000000
set_option linter.unusedVariables false
set_option linter.unusedSimpArgs false
namespace Go.Proofs.YteoghgbnielkpaaGreat
open Go.RowKit Go.Maps
open Tryz
open Go renaming World->vw, Value->vx, Addr->vy, TypeId->vz, Calls->vB
open Go.Value renaming int->vd, slice->ve, agg->vf
open Go.IntKind renaming u64->vn, i64->vq
open Go.Ending renaming returned->vl
open Go.RowKit renaming Below->vA
open Go.World renaming setCell->vF
open Go.Act renaming put->vG
open Option renaming none->vD, some->vE
theorem Rb {p:Nat} (h:Jb p=true):17 <= p /\ p<18446744073709551616:=by
 rcases cu h with rfl | rfl | rfl | rfl | rfl | rfl | rfl <;> omega
theorem zHY (p a b:Nat) (w:vw) (hp:Jb p=true) :
  vB prog 71 #[vd vn p,vd vn a,vd vn b] w fun e w'=>e=vl (vd vn ((a+b)%p:Nat)) /\ vA w.1.size w w':=by
 obtain ⟨h1,h2⟩:=Rb hp;have HO:=zH hp;have p1:(0:Int)<p:=by omega
 have p2:¬((p:Int)=0):=by omega
 have ha:a%p<p:=mc _ zO;have hb:b%p<p:=mc _ zO;have HE:=zH (Nat.add_mod a b p);have e1:(a:Int)%(p:Int)=((a%p:Nat):Int):=rfl;have e2:(b:Int)%(p:Int)=((b%p:Nat):Int):=rfl;rw [HE.out];clear HE;revert e1 e2 ha hb
 generalize a%p=x;generalize b%p=y;intro ha hb e1 e2;have e3:vn.wrap ((p:Int)-y)=((p-y:Nat):Int):=Az p y zO h2;have hz:p-y <= p:=by omega
 have Ve:p-y=p-y:=rfl;obtain ⟨z,hzz⟩:=zEX (p-y);rw [<- hzz] at e3;have HX:=zH (show z <= x /\ x+y<36893488147419103232 -> True from fun _=>trivial)
 by_cases hc:z <= x
 ·have e4:vn.wrap ((x:Int)-z)=((x-z:Nat):Int):=Az x z hc zO
  obtain ⟨r,hr⟩:=zEX (x-z);rw [<- hr] at e4;have HR:=zH (show (x+y)%p=r by rw [hr,hzz,Nat.mod_eq_sub_mod zO,qj zO];omega)
  have d1:decide ((z:Int)<=x)=true:=xb zO;clear hr hzz hz Ve h1 h2 ha hb hp;rw [HR.out];go_enter func71,ntmps71
  go_wp2_with (go_at_call 152;refine (VD p _ (Rb HO.out).2).mono ?_;rintro e w1 ⟨rfl,Ia⟩;rw [HO.out])
  go_quiet (fail)
  go_wp2;go_ret
  exact ⟨rfl,AK Ia _⟩
 ·have e4:vn.wrap ((x:Int)+y)=((x+y:Nat):Int):=pS x y zO
  obtain ⟨r,hr⟩:=zEX (x+y);rw [<- hr] at e4;have HR:=zH (show (x+y)%p=r by rw [hr,qj zO])
  have d1:decide ((z:Int)<=x)=false:=db zO;clear hr hzz hz Ve h1 h2 ha hb hp;rw [HR.out];go_enter func71,ntmps71
  go_wp2_with (go_at_call 152;refine (VD p _ (Rb HO.out).2).mono ?_;rintro e w1 ⟨rfl,Ia⟩;rw [HO.out])
  go_quiet (fail)
  go_wp2;go_ret
  exact ⟨rfl,AK Ia _⟩
theorem zAr (p a b:Nat) (w:vw) (hp:Jb p=true) :
  vB prog 181 #[vd vn p,vd vn a,vd vn b] w fun e w'=>e=vl (vd vn (a*b%p:Nat)) /\ vA w.1.size w w':=by
 obtain ⟨h1,h2⟩:=Rb hp;have HO:=zH hp;have p1:(0:Int)<p:=by omega
 have p2:¬((p:Int)=0):=by omega
 have p3:¬(p=0):=by omega
 have ha:a%p<p:=mc _ zO;have hb:b%p<p:=mc _ zO;have e1:(a:Int)%(p:Int)=((a%p:Nat):Int):=rfl;have e2:(b:Int)%(p:Int)=((b%p:Nat):Int):=rfl;have e3:(a:Int).tmod (p:Int)=((a%p:Nat):Int):=rfl;have e4:(b:Int).tmod (p:Int)=((b%p:Nat):Int):=rfl;rw [Nat.mul_mod a b p];revert e1 e2 e3 e4 ha hb
 generalize a%p=x;generalize b%p=y;intro ha hb e1 e2 e3 e4;have HX:=zH (show x<18446744073709551616 /\ y<18446744073709551616 by omega)
 have Bw:x*y / 18446744073709551616<p:=by
  have:x*y <= p*18446744073709551615:=Nat.mul_le_mul zO zO;rw [Nat.div_lt_iff_lt_mul zO];omega
 have Fw:x*y%18446744073709551616<18446744073709551616:=mc _ zO;have Nr:=Eu (x*y) 18446744073709551616;rw [ye 18446744073709551616] at Nr;have HM:=zH (fun w=>W7 x y w HX.out.1 HX.out.2)
 revert Bw Fw Nr HM
 generalize x*y / 18446744073709551616=hi;generalize x*y%18446744073709551616=lo;intro Bw Fw Nr HM;have HD:=zH (fun w=>XZ hi lo p w Bw Fw h2)
 rw [Nr] at HD;clear h1 h2 ha hb Bw Fw Nr hp;revert HD
 generalize x*y / p=q;generalize x*y%p=r;intro HD;go_enter func181,ntmps181
 go_wp2_with (go_at_call 152;refine (VD p _ (Rb HO.out).2).mono ?_;rintro e w1 ⟨rfl,Ia⟩;rw [HO.out])
 refine zd (Wb) [6] [0,1,2,3,4,5,6,7,8,9,10,11] zK zK ?_;refine Gv (oa) ?_;intro Wc ea;refine Pb ?_;refine Ic oa rfl rfl rfl ((HM.out _).mono ?_);rintro e w2 ⟨rfl,rfl⟩;refine ⟨_,rfl,oa.refl _,?_⟩;replace ea:=zM oa ea (oa.refl _);refine zPU ?_;refine Pb ?_;refine Hc ?_;go_wp2_with (go_at_call 260;refine (HD.out _).mono ?_;rintro e w3 ⟨rfl,k,rfl⟩)
 go_ret
 exact ⟨rfl,AK (ma Ia.drew ea) _⟩
def ren25:Go.Shelf.Ren:=⟨fun | 25=>302 | n=>n,fun | 22=>22 | n=>n,fun n=>n⟩
theorem lays25:Go.Proofs.Lays7.n25 prog ren25:={ mixed:=by kernel_rfl,f25:=by kernel_rfl,t22:=by kernel_rfl,a22:=fun _=>zK,z22:=fun _=>zK,v22:=fun _=>zK,i22:=by kernel_rfl }
theorem zIv (x y:Nat) (w:vw):(callFunc 302 #[vd vn x,vd vn y,vd vn 0]).run prog w =
  .ok (.value (.tuple #[vd vn (((x+y)%18446744073709551616:Nat):Int),vd vn (((x+y) / 18446744073709551616:Nat):Int)])) w :=
 Any7.bits_Add64 lays25 x y 0 zO w
def fv (p:Nat):vx:=vf #[vd vn p]
theorem zp (p:Nat) (w:vw) (hp:Jb p=true) :
  vB prog 214 #[fv p] w fun e w'=>e=vl (.bool true) /\ vA w.1.size w w':=by
 unfold fv;rcases cu hp with rfl | rfl | rfl | rfl | rfl | rfl | rfl <;>
 ·go_enter func214,ntmps214
  go_wp2_with fail
  go_ret
  exact ⟨rfl,(tb _ _).alloc zR _⟩
theorem L2 (p:Nat) (w:vw) (hp:Jb p=true) :
  vB prog 223 #[fv p] w fun e w'=>e=vl (.tuple #[vd vn ((Mb p).1:Int),vd vq ((Mb p).2.1:Int),vd vn ((Mb p).2.2:Int)]) /\ vA w.1.size w w':=by
 unfold fv;rcases cu hp with rfl | rfl | rfl | rfl | rfl | rfl | rfl <;>
 ·go_enter func223,ntmps223
  go_wp2_with fail
  go_ret3
  exact ⟨rfl,(tb _ _).alloc zR _⟩
theorem lU (p:Nat) (w:vw) (hp:Jb p=true) :
  vB prog 131 #[fv p] w fun e w'=>e=vl (vd vn ((Mb p).1:Int)) /\ vA w.1.size w w':=by
 have H:=zH (fun w=>L2 p w hp)
 clear hp;unfold fv at *;generalize Mb p=r at *;obtain ⟨a,b,c⟩:=r;go_enter func131,ntmps131
 go_wp2_with (go_at_call 223;refine (H.out _).mono ?_;rintro e w1 ⟨rfl,hb⟩)
 go_ret
 exact ⟨rfl,ma ((tb _ _).alloc zR _) hb⟩
theorem zD8 (p:Nat) (w:vw) (hp:Jb p=true) :
  vB prog 313 #[fv p] w fun e w'=>e=vl (vd vn ((Mb p).2.2:Int)) /\ vA w.1.size w w':=by
 have H:=zH (fun w=>L2 p w hp)
 clear hp;unfold fv at *;generalize Mb p=r at *;obtain ⟨a,b,c⟩:=r;go_enter func313,ntmps313
 go_wp2_with (go_at_call 223;refine (H.out _).mono ?_;rintro e w1 ⟨rfl,hb⟩)
 go_ret
 exact ⟨rfl,ma ((tb _ _).alloc zR _) hb⟩
theorem sC (p n:Nat) (w:vw) (hp:0<p) :
  vB prog 228 #[fv p,vd vn n] w fun e w'=>e=vl (vd vn ((n%p:Nat):Int)) /\ vA w.1.size w w':=by
 unfold fv;have p1:(0:Int)<p:=by omega
 have e1:(n:Int)%(p:Int)=((n%p:Nat):Int):=rfl;have e2:(n:Int).tmod (p:Int)=((n%p:Nat):Int):=rfl;by_cases h:p <= n
 ·have g:(p:Int)<=n:=by omega
  revert e1 e2
  generalize n%p=r;intro e1 e2;go_enter func228,ntmps228
  go_wp2_with fail
  go_ret
  exact ⟨rfl,(tb _ _).alloc zR _⟩
 ·have g:¬((p:Int)<=n):=by omega
  have HE:=zH (qj (show n<p by omega))
  clear e1 e2;rw [HE.out];go_enter func228,ntmps228
  go_wp2_with fail
  go_ret
  exact ⟨rfl,(tb _ _).alloc zR _⟩
theorem FP (p a b:Nat) (w:vw) (hp:Jb p=true) (ha:a<p) (hb:b<p) :
  vB prog 227 #[fv p,vd vn a,vd vn b] w fun e w'=>e=vl (vd vn ((a*b%p:Nat):Int)) /\ vA w.1.size w w':=by
 obtain ⟨h1,h2⟩:=Rb hp;unfold fv;have Bw:a*b / 18446744073709551616<p:=by
  have:a*b <= p*18446744073709551615:=Nat.mul_le_mul zO zO;rw [Nat.div_lt_iff_lt_mul zO];omega
 have Fw:a*b%18446744073709551616<18446744073709551616:=mc _ zO;have Nr:=Eu (a*b) 18446744073709551616;rw [ye 18446744073709551616] at Nr;have HM:=zH (fun w=>W7 a b w zO zO)
 revert Bw Fw Nr HM
 generalize a*b / 18446744073709551616=hi;generalize a*b%18446744073709551616=lo;intro Bw Fw Nr HM;have HD:=zH (fun w=>XZ hi lo p w Bw Fw h2)
 rw [Nr] at HD;clear h1 h2 ha hb Bw Fw Nr hp;revert HD
 generalize a*b / p=q;generalize a*b%p=r;intro HD;go_enter func227,ntmps227
 go_wp2_with fail
 refine (HM.out _).mono ?_;rintro e w1 ⟨rfl,rfl⟩;go_wp2_with fail
 refine (HD.out _).mono ?_;rintro e w3 ⟨rfl,k,rfl⟩;go_wp2;go_ret
 exact ⟨rfl,AK ((tb _ _).alloc zR _) _⟩
theorem Q2 (p a b:Nat) (w:vw) (hp:Jb p=true) (ha:a<p) (hb:b<p) :
  vB prog 279 #[fv p,vd vn a,vd vn b] w fun e w'=>e=vl (vd vn (((a+b)%p:Nat):Int)) /\ vA w.1.size w w':=by
 obtain ⟨h1,h2⟩:=Rb hp;unfold fv;have Tc:=zIv a b;obtain ⟨s,hs⟩:=zEX ((a+b)%18446744073709551616);obtain ⟨c,hc⟩:=zEX ((a+b) / 18446744073709551616);rw [<- hs,<- hc] at Tc;by_cases z:c=0
 ·have d1:((c:Int) != 0)=false:=by rw [Hr];omega
  have d1':(c:Int)=0:=by omega
  by_cases PC:p <= s
  ·have d2:(p:Int)<=s:=by omega
   have e:vn.wrap ((s:Int)-p)=(((a+b)%p:Nat):Int):=by
    rw [Az s p PC zO]
    congr 1
    have e1:s=a+b:=by omega
    rw [e1,Nat.mod_eq_sub_mod zO,qj zO]
   generalize (a+b)%p=r at *;clear hs hc hp z ha hb h1 h2 d1';go_enter func279,ntmps279
   go_wp2_with fail
   go_ret
   exact ⟨rfl,(tb _ _).alloc zR _⟩
  ·have d2:¬((p:Int)<=s):=by omega
   have e:s=(a+b)%p:=by
    have e1:s=a+b:=by omega
    rw [e1,qj zO]
   have HE:=zH e;clear hs hc hp z ha hb h1 h2 d1' e;rw [<- HE.out];go_enter func279,ntmps279
   go_wp2_with fail
   go_ret
   exact ⟨rfl,(tb _ _).alloc zR _⟩
 ·have d1:((c:Int) != 0)=true:=by rw [ef];omega
  have e:vn.wrap ((s:Int)-p)=(((a+b)%p:Nat):Int):=by
   have e1:(a+b)%p=a+b-p:=by rw [Nat.mod_eq_sub_mod zO,qj zO]
   rw [e1,Kj];omega
  generalize (a+b)%p=r at *;clear hs hc hp z ha hb h1 h2;go_enter func279,ntmps279
  go_wp2_with fail
  go_ret
  exact ⟨rfl,(tb _ _).alloc zR _⟩
theorem rI (p n:Nat) (w:vw) (hp:Jb p=true) :
  vB prog 221 #[fv p,vd vn n] w fun e w'=>e=vl (vd vn ((n%p:Nat):Int)) /\ vA w.1.size w w':=by
 have HV:=zH (fun w=>zp p w hp)
 have HR:=zH (fun w=>sC p n w (zQ (Rb hp)))
 clear hp;unfold fv at *;generalize n%p=r at *;obtain ⟨kf,da⟩:=zN w 224 #[vd vn p];go_enter func221,ntmps221
 go_wp2_with fail
 refine (HV.out _).mono ?_;rintro e w1 ⟨rfl,Ia⟩;replace kf:=ia kf Ia;replace da:=ma da Ia;clear Ia;have cf:=kf.cell;go_wp2_with fail
 refine (HR.out _).mono ?_;rintro e w2 ⟨rfl,Ba⟩;go_wp2;go_ret
 exact ⟨rfl,ma da Ba⟩
theorem mn (p a b:Nat) (w:vw) (hp:Jb p=true) :
  vB prog 215 #[fv p,vd vn a,vd vn b] w fun e w'=>e=vl (vd vn (((a+b)%p:Nat):Int)) /\ vA w.1.size w w':=by
 have jf:0<p:=by have:=Rb hp;omega
 have HV:=zH (fun w=>zp p w hp)
 have HA:=zH (fun w=>sC p a w jf)
 have HB:=zH (fun w=>sC p b w jf)
 have HS:=zH (fun w=>Q2 p (a%p) (b%p) w hp (mc _ jf) (mc _ jf))
 rw [<- Nat.add_mod] at HS;clear hp jf;unfold fv at *;generalize (a+b)%p=r at *;generalize a%p=x at *;generalize b%p=y at *;obtain ⟨kf,da⟩:=zN w 224 #[vd vn p];go_enter func215,ntmps215
 go_wp2_with fail
 refine (HV.out _).mono ?_;rintro e w1 ⟨rfl,Ia⟩;replace kf:=ia kf Ia;replace da:=ma da Ia;clear Ia;have cf:=kf.cell;have lf:=kf.lt;go_wp2_with fail
 refine kh (Wb) (oa) [] [] [0,1,2,3,4,5,6,7,8] zK zK ?_;refine lh (oa) ?_;intro Wc ea;refine Me ?_;refine Nd oa rfl rfl rfl rfl (fun w' hR=>HA.out _) ?_
 refine zPU ?_;refine Me ?_;refine Nd oa rfl rfl rfl rfl (fun w' hR=>HB.out _) ?_
 refine zPU ?_;refine Me ?_;refine Nd oa rfl rfl rfl rfl (fun w' hR=>HS.out _) ?_
 refine zPU ?_;refine Me ?_;refine Qs rfl ?_;intro wd me;replace ea:=zM oa ea me;clear me;go_wp2;go_ret
 exact ⟨rfl,ma da.drew ea⟩
theorem zHz (p r a e n:Nat) (h:r*a^e%p=n) (he:e%2=1):(r*a%p)*(a*a%p)^(e / 2)%p=n:=by
 have h2:e=2*(e / 2)+1:=by omega
 rw [<- h,Nat.mul_mod,Nat.mod_mod,<- Nat.pow_mod,<- Nat.mul_mod]
 conv=>rhs;rw [h2,Sf,Nat.pow_mul,Nat.pow_two,ye _ a,<- Nat.mul_assoc]
theorem zHy (p r a e n:Nat) (h:r*a^e%p=n) (he:e%2=0):r*(a*a%p)^(e / 2)%p=n:=by
 have h2:e=2*(e / 2):=by omega
 rw [<- h,Nat.mul_mod,<- Nat.pow_mod,<- Nat.mul_mod]
 conv=>rhs;rw [h2,Nat.pow_mul,Nat.pow_two]
theorem sU (p a e:Nat) (w:vw) (hp:Jb p=true) (ha:a<p) (he:e<18446744073709551616) :
  vB prog 281 #[fv p,vd vn a,vd vn e] w fun e' w'=>e'=vl (vd vn ((a^e%p:Nat):Int)) /\ vA w.1.size w w':=by
 have jf:1<p:=by have:=Rb hp;omega
 have HM:=zH (fun a b w (h1:a<p) (h2:b<p)=>FP p a b w hp h1 h2)
 obtain ⟨n,hn⟩:=zEX (a^e%p);rw [<- hn];have HI:=zH (show 1*a^e%p=n by rw [Nat.one_mul,hn])
 have HP:=zH jf;clear hn hp jf;unfold fv at *;obtain ⟨kf,da⟩:=zN w 224 #[vd vn p];go_enter func281,ntmps281
 go_wp2_with fail
 generalize w.alloc _=w0 at da kf |-;go_loopw [1,2,7] (fun x y z wr=>∃ a' e' r:Nat,x=vd vn a' /\ y=vd vn e' /\ z=vd vn r /\ a'<p /\ r<p /\ e'<18446744073709551616 /\ Hid (r*a'^e'%p=n) /\ vA w0.1.size w0 wr) (fun _ y _ _=>(intOf y).toNat)
 case atStart=>exact ⟨a,e,1,rfl,rfl,rfl,ha,HP.out,he,HI.out,tb _ _⟩
 case round =>
  obtain ⟨a',e',r,rfl,rfl,rfl,Dp,Qt,he',H,yb⟩:=hrel;have Qp:=ia kf yb;have cf:=Qp.cell;by_cases h0:e'=0
  ·subst h0
   have HE:=zH (show r=n by have:=H.out;rw [Nat.pow_zero,fp,qj Qt] at this;exact this)
   go_wp2;go_ret
   exact ⟨by rw [HE.out];rfl,da.trans (yb.mono da.size)⟩
  ·have g1:(0:Int)<e':=by omega
   obtain ⟨f,hf⟩:=zEX (e' / 2);have e1:(e':Int) / 2=(f:Int):=by omega
   have eb:bits BinOp.and vn (e':Int) 1=((e'%2:Nat):Int):=by
    have:=bits_and_u64_nat e' 1 he' zO;rw [Nat.and_one_is_mod] at this;exact this
   rcases (show e'%2=1 \/ e'%2=0 by omega) with Dk | Dk
   ·rw [Dk] at eb
    have HF:=zH hf;have Of:=zH (fun w=>HM.out r a' w Qt Dp)
    have HX:=zHz p r a' e' n H.out Dk;rw [<- hf] at HX;have Dd:r*a'%p<p:=mc _ (zQ HP.out);generalize r*a'%p=s at *;have EH:=fun (Xr:f=0)=>show s*a'^f%p=n by rw [Xr,Nat.pow_zero] at HX |-;exact HX
    replace HX:=zH HX;replace EH:=zH EH;clear Dk hf;go_wp2_with fail
    refine (Of.out _).mono ?_;rintro e w1 ⟨rfl,Ia⟩;replace Qp:=Qp.below Ia Qp.lt;replace yb:=rM yb Ia yb.size;clear cf Ia;have cf:=Qp.cell;by_cases Xr:f=0
    ·have d3:decide (0<f)=false:=db zO
     have Kx:=zH Xr;clear Xr;go_wp2_with fail
     go_roundw
     case rel=>exact ⟨a',f,s,rfl,rfl,rfl,Dp,Dd,by have:=HF.out;omega,EH.out Kx.out,yb⟩
     case measure=>have:=HF.out;simp [intOf];omega
    ·have g3:(0:Int)<f:=by omega
     have HQ:=zH (fun w=>HM.out a' a' w Dp Dp)
     have Yu:a'*a'%p<p:=mc _ (zQ HP.out);have HN2:=zH HX.out;generalize a'*a'%p=q at *;go_wp2_with fail
     refine (HQ.out _).mono ?_;rintro e w2 ⟨rfl,Ba⟩;replace yb:=rM yb Ba yb.size;go_wp2
     go_roundw
     case rel=>exact ⟨q,f,s,rfl,rfl,rfl,Yu,Dd,by have:=HF.out;omega,HN2.out,yb⟩
     case measure=>have:=HF.out;simp [intOf];omega
   ·rw [Dk] at eb
    have HF:=zH hf;have HX:=zHy p r a' e' n H.out Dk;rw [<- hf] at HX;have EH:=fun (Xr:f=0)=>show r*a'^f%p=n by rw [Xr,Nat.pow_zero] at HX |-;exact HX
    replace HX:=zH HX;replace EH:=zH EH;clear Dk hf;by_cases Xr:f=0
    ·have d3:decide (0<f)=false:=db zO
     have Kx:=zH Xr;clear Xr;go_wp2_with fail
     go_roundw
     case rel=>exact ⟨a',f,r,rfl,rfl,rfl,Dp,Qt,by have:=HF.out;omega,EH.out Kx.out,yb⟩
     case measure=>have:=HF.out;simp [intOf];omega
    ·have g3:(0:Int)<f:=by omega
     have HQ:=zH (fun w=>HM.out a' a' w Dp Dp)
     have Yu:a'*a'%p<p:=mc _ (zQ HP.out);have HN2:=zH HX.out;generalize a'*a'%p=q at *;go_wp2_with fail
     refine (HQ.out _).mono ?_;rintro e w2 ⟨rfl,Ba⟩;replace yb:=rM yb Ba yb.size;go_wp2
     go_roundw
     case rel=>exact ⟨q,f,r,rfl,rfl,rfl,Yu,Qt,by have:=HF.out;omega,HN2.out,yb⟩
     case measure=>have:=HF.out;simp [intOf];omega
theorem Kr (p a b:Nat) (w:vw) (hp:Jb p=true) :
  vB prog 142 #[fv p,vd vn a,vd vn b] w fun e w'=>e=vl (vd vn ((a*b%p:Nat):Int)) /\ vA w.1.size w w':=by
 have jf:0<p:=by have:=Rb hp;omega
 have HV:=zH (fun w=>zp p w hp)
 have HA:=zH (fun w=>sC p a w jf)
 have HB:=zH (fun w=>sC p b w jf)
 have HS:=zH (fun w=>FP p (a%p) (b%p) w hp (mc _ jf) (mc _ jf))
 rw [<- Nat.mul_mod] at HS;clear hp jf;generalize a*b%p=r at *;generalize a%p=x at *;generalize b%p=y at *;unfold fv at *;obtain ⟨kf,da⟩:=zN w 224 #[vd vn p];go_enter func142,ntmps142
 go_wp2_with fail
 refine (HV.out _).mono ?_;rintro e' w1 ⟨rfl,Ia⟩;replace kf:=ia kf Ia;replace da:=ma da Ia;clear Ia;have cf:=kf.cell;have lf:=kf.lt;go_wp2_with fail
 refine kh (Wb) (oa) [] [] [0,1,2,3,4,5,6,7,8] zK zK ?_;refine lh (oa) ?_;intro Wc ea;refine Me ?_;refine Nd oa rfl rfl rfl rfl (fun w' hR=>HA.out _) ?_
 refine zPU ?_;refine Me ?_;refine Nd oa rfl rfl rfl rfl (fun w' hR=>HB.out _) ?_
 refine zPU ?_;refine Me ?_;refine Nd oa rfl rfl rfl rfl (fun w' hR=>HS.out _) ?_
 refine zPU ?_;refine Me ?_;refine Qs rfl ?_;intro wd me;replace ea:=zM oa ea me;clear me;go_wp2;go_ret
 exact ⟨rfl,ma da.drew ea⟩
theorem zD9 (p a n:Nat) (w:vw) (hp:Jb p=true) (hn:n<18446744073709551616) :
  vB prog 314 #[fv p,vd vn a,vd vn n] w fun e w'=>e=vl (vd vn ((a^n%p:Nat):Int)) /\ vA w.1.size w w':=by
 have jf:0<p:=by have:=Rb hp;omega
 have HV:=zH (fun w=>zp p w hp)
 have HA:=zH (fun w=>sC p a w jf)
 have HS:=zH (fun w=>sU p (a%p) n w hp (mc _ jf) hn)
 rw [<- Nat.pow_mod] at HS;clear hp jf hn;generalize a^n%p=r at *;generalize a%p=x at *;unfold fv at *;obtain ⟨kf,da⟩:=zN w 224 #[vd vn p];go_enter func314,ntmps314
 go_wp2_with fail
 refine (HV.out _).mono ?_;rintro e' w1 ⟨rfl,Ia⟩;replace kf:=ia kf Ia;replace da:=ma da Ia;clear Ia;have cf:=kf.cell;have lf:=kf.lt;go_wp2_with fail
 refine kh (Wb) (oa) [] [] [0,1,2,3,4,5,6] zK zK ?_;refine lh (oa) ?_;intro Wc ea;refine Me ?_;refine Nd oa rfl rfl rfl rfl (fun w' hR=>HA.out _) ?_
 refine zPU ?_;refine Me ?_;refine Nd oa rfl rfl rfl rfl (fun w' hR=>HS.out _) ?_
 refine zPU ?_;refine Me ?_;refine Qs rfl ?_;intro wd me;replace ea:=zM oa ea me;clear me;go_wp2;go_ret
 exact ⟨rfl,ma da.drew ea⟩
theorem G2 (p a:Nat) (w:vw) (hp:Jb p=true) :
  vB prog 230 #[fv p,vd vn a] w fun e w'=>e=vl (vd vn ((a^(p-2)%p:Nat):Int)) /\ vA w.1.size w w':=by
 obtain ⟨zf,Kd⟩:=Rb hp;have HV:=zH (fun w=>zp p w hp)
 have HA:=zH (fun w=>sC p a w zO)
 have HS:=zH (fun w=>sU p (a%p) (p-2) w hp (mc _ zO) zO)
 have e1:vn.wrap ((p:Int)-2)=((p-2:Nat):Int):=Az p 2 zO Kd;have e2:(p:Int)-2=((p-2:Nat):Int):=by omega
 have e3:vn.wrap ((p-2:Nat):Int)=((p-2:Nat):Int):=Fl _ zO;rw [<- Nat.pow_mod] at HS;clear hp zf Kd;generalize a^(p-2)%p=r at *;generalize a%p=x at *;generalize p-2=m at *;unfold fv at *;obtain ⟨kf,da⟩:=zN w 224 #[vd vn p];go_enter func230,ntmps230
 go_wp2_with fail
 refine (HV.out _).mono ?_;rintro e' w1 ⟨rfl,Ia⟩;replace kf:=ia kf Ia;replace da:=ma da Ia;clear Ia;have cf:=kf.cell;have lf:=kf.lt;go_wp2_with fail
 refine kh (Wb) (oa) [] [] [0,1,2,3,4,5,6,7,8] zK zK ?_;refine lh (oa) ?_;intro Wc ea;refine Me ?_;refine Nd oa rfl rfl rfl rfl (fun w' hR=>HA.out _) ?_
 refine zPU ?_;refine Me ?_;refine Nd oa rfl rfl rfl rfl (fun w' hR=>HS.out _) ?_
 refine zPU ?_;refine Me ?_;refine Qs rfl ?_;intro wd me;replace ea:=zM oa ea me;clear me;go_wp2;go_ret
 exact ⟨rfl,ma da.drew ea⟩
def tg (p a:Nat):Nat:=if a%p=0 then 0 else p-a%p
theorem J2 (p a:Nat) (w:vw) (hp:Jb p=true) :
  vB prog 147 #[fv p,vd vn a] w fun e w'=>e=vl (vd vn (tg p a:Int)) /\ vA w.1.size w w':=by
 obtain ⟨zf,Kd⟩:=Rb hp;have HA:=zH (fun w=>rI p a w hp)
 have hx:a%p<p:=mc _ zO;have HN:=zH (show tg p a=if a%p=0 then 0 else p-a%p from rfl)
 clear hp;generalize tg p a=r at *;generalize a%p=x at *;by_cases h0:x=0
 ·have HR:=zH (show r=0 by rw [HN.out,Ka h0])
  subst h0;unfold fv at *;obtain ⟨kf,da⟩:=zN w 224 #[vd vn p];go_enter func147,ntmps147
  go_wp2_with fail
  refine (HA.out _).mono ?_;rintro e' w1 ⟨rfl,Ia⟩;go_wp2;go_ret
  exact ⟨by rw [HR.out];rfl,ma da Ia⟩
 ·have HR:=zH (show r=p-x by rw [HN.out,ya h0])
  have d1:((x:Int) == 0)=false:=by rw [Gd];omega
  have e1:vn.wrap ((p:Int)-x)=((p-x:Nat):Int):=Az p x zO Kd;rw [HR.out];clear hx zf Kd h0 HR HN;generalize p-x=z at *;unfold fv at *;obtain ⟨kf,da⟩:=zN w 224 #[vd vn p];go_enter func147,ntmps147
  go_wp2_with fail
  refine (HA.out _).mono ?_;rintro e' w1 ⟨rfl,Ia⟩;replace kf:=ia kf Ia;have cf:=kf.cell;go_wp2;go_ret
  exact ⟨rfl,ma da Ia⟩
theorem NM (p a b:Nat) (w:vw) (hp:Jb p=true) :
  vB prog 219 #[fv p,vd vn a,vd vn b] w fun e w'=>e=vl (vd vn (((a+tg p b)%p:Nat):Int)) /\ vA w.1.size w w':=by
 have HN:=zH (fun w=>J2 p b w hp)
 have HS:=zH (fun w=>mn p a (tg p b) w hp)
 clear hp;generalize (a+tg p b)%p=r at *;generalize tg p b=x at *;unfold fv at *;obtain ⟨kf,da⟩:=zN w 224 #[vd vn p];go_enter func219,ntmps219
 have cf:=kf.cell;have lf:=kf.lt;go_wp2_with fail
 refine kh (Wb) (oa) [] [] [0,1,2,3,4,5,6] zK zK ?_;refine lh (oa) ?_;intro Wc ea;refine Me ?_;refine Nd oa rfl rfl rfl rfl (fun w' hR=>HN.out _) ?_
 refine zPU ?_;refine Me ?_;refine Nd oa rfl rfl rfl rfl (fun w' hR=>HS.out _) ?_
 refine zPU ?_;refine Me ?_;refine Qs rfl ?_;intro wd me;replace ea:=zM oa ea me;clear me;go_wp2;go_ret
 exact ⟨rfl,ma da.drew ea⟩
structure St where
 a:Nat
 b:Nat
 c:Nat
def St.val (s:St):vx:=vf #[vd vn s.a,vd vn s.b,vd vn s.c]
def St.cs (s:St):Array vx:=#[vd vn s.a,vd vn s.b,vd vn s.c]
def St.ok (s:St):Prop:=s.a<18446744073709551616 /\ s.b<18446744073709551616 /\ s.c<18446744073709551616
def oL (k:Nat):Nat:=k*11400714819323198485%18446744073709551616
def jF (p r i:Nat):Nat:=oL (3*r+i+1)%p
def Zt (p:Nat) (s:St):Nat:=((s.a+s.b)%p+s.c)%p
def BN (p:Nat) (s:St):St:=⟨(s.a+Zt p s)%p,(s.b+Zt p s)%p,(s.c+Zt p s)%p⟩
theorem zGS (p r i:Nat) (w:vw) (hp:Jb p=true) (hr:r<8) (hi:i<3) :
  vB prog 315 #[vd vn p,vd vq r,vd vq i] w fun e w'=>e=vl (vd vn (jF p r i:Int)) /\ vA w.1.size w w':=by
 have HR:=zH (fun w=>rI p (oL (3*r+i+1)) w hp)
 have HC:=zH (show jF p r i=oL (3*r+i+1)%p from rfl)
 rw [HC.out];clear HC hp;obtain ⟨k,hk⟩:=zEX (3*r+i+1);rw [<- hk] at HR |-;have g1:(r:Int)<8:=by omega
 have g2:(i:Int) <= 2:=by omega
 have e1:3*(r:Int)+i+1=(k:Int):=by omega
 have e2:vn.wrap (k:Int)=k:=Fl _ zO;have e3:vn.wrap ((k:Int)*11400714819323198485)=(oL k:Int):=by
  rw [Kj];have:((k:Int)*11400714819323198485)=((k*11400714819323198485:Nat):Int):=by rw [Qf];rfl
  rw [this]
  rfl
 clear hk hr hi;generalize oL k%p=m at *;generalize oL k=z at *;unfold fv at *;go_enter func315,ntmps315
 go_wp2_with fail
 refine (HR.out _).mono ?_;rintro e w1 ⟨rfl,hb⟩;go_wp2;go_ret
 exact ⟨rfl,hb⟩
theorem zGX (p:Nat) (s:St) (w:vw) (hp:Jb p=true) :
  vB prog 316 #[vd vn p,s.val] w fun e w'=>e=vl (BN p s).val /\ vA w.1.size w w':=by
 obtain ⟨a,b,c⟩:=s;have H1:=zH (fun w=>mn p a b w hp)
 have H2:=zH (fun w=>mn p ((a+b)%p) c w hp)
 have H3:=zH (fun w=>mn p a (Zt p ⟨a,b,c⟩) w hp)
 have H4:=zH (fun w=>mn p b (Zt p ⟨a,b,c⟩) w hp)
 have H5:=zH (fun w=>mn p c (Zt p ⟨a,b,c⟩) w hp)
 have HM:=zH (show (BN p ⟨a,b,c⟩).val=vf #[vd vn (((a+Zt p ⟨a,b,c⟩)%p:Nat):Int),vd vn (((b+Zt p ⟨a,b,c⟩)%p:Nat):Int),vd vn (((c+Zt p ⟨a,b,c⟩)%p:Nat):Int)] from rfl)
 rw [HM.out];have HS:=zH (show ((a+b)%p+c)%p=Zt p ⟨a,b,c⟩ from rfl)
 rw [HS.out] at H2;clear HM HS hp;generalize (a+Zt p ⟨a,b,c⟩)%p=x at *;generalize (b+Zt p ⟨a,b,c⟩)%p=y at *;generalize (c+Zt p ⟨a,b,c⟩)%p=z at *;generalize Zt p ⟨a,b,c⟩=m at *;generalize (a+b)%p=ab at *;unfold St.val;unfold fv at *;simp only;obtain ⟨k1,k2,k3,da,jb⟩:=oq w 298 298 224 #[vd vn a,vd vn b,vd vn c] #[vd vn 0,vd vn 0,vd vn 0] #[vd vn p];go_enter func316,ntmps316
 go_wp2_with fail
 generalize ((w.alloc _).alloc _).alloc _=w0 at k1 k2 k3 da jb |-;have c1:=k1.cell;have c3:=k3.cell;have l1:=k1.lt;have l3:=k3.lt;refine kh (Wb) (oa) [] [] [0,1,2,3,4,5,6,7,8,9,10] zK zK ?_;refine lh (oa) ?_;intro Wc ea;refine Me ?_;refine Nd oa rfl rfl rfl rfl (fun w' hR=>H1.out _) ?_
 refine zPU ?_;refine Me ?_;refine Nd oa rfl rfl rfl rfl (fun w' hR=>H2.out _) ?_
 refine zPU ?_;refine Me ?_;refine Qs rfl ?_;intro wd me;replace ea:=zM oa ea me;clear me;replace k1:=k1.drew.below ea k1.lt;replace k2:=k2.drew.below ea k2.lt;replace k3:=k3.drew.below ea k3.lt;replace da:=ma da.drew ea;have hsw:w.1.size+1<wd.1.size:=k2.lt;clear c1 c3 l1 l3 ea jb H1 H2;have c1:=k1.cell;have c3:=k3.cell;have l1:=k1.lt;have l3:=k3.lt;go_wp2_with fail
 refine kh (Wb) (oa) [16] [16] [0,1,2,3,4,5,6,7,8,9,10,11,12,13,14,15,16] zK zK ?_;refine lh (oa) ?_;intro Wc ea;refine Xe ?_;refine Nd oa rfl rfl rfl rfl (fun w' hR=>H3.out _) ?_
 refine zPU ?_;refine Xe ?_;refine Nd oa rfl rfl rfl rfl (fun w' hR=>H4.out _) ?_
 refine zPU ?_;refine Xe ?_;refine Nd oa rfl rfl rfl rfl (fun w' hR=>H5.out _) ?_
 refine zPU ?_;refine Xe ?_;refine Oo rfl rfl rfl rfl ?_;intro wh Qd;replace ea:=zM oa ea Qd;replace k2:=k2.drew.below ea k2.lt;replace da:=ma da.drew ea;have c2:=k2.cell;have f2:=k2.frozen;have l2:=k2.lt;go_simp;refine ⟨fun h=>Bool.noConfusion h,?_⟩
 have hg:=PG (w:=wh) (g:=w.1.size+1) (vd vn x) (vd vn y) (vd vn z);have kz:=OG k2 (vd vn x) (vd vn y) (vd vn z);clear c2 f2 k2;generalize ((vF wh _ _).setCell _ _).setCell _ _=Wf at hg kz |-;have cz:=kz.cell;refine Up rfl ?_;go_wp2;exact Sc (v:=vf #[vd vn x,vd vn y,vd vn z]) (by simp [results,results316,go_sem,cz]) rfl ⟨rfl,da.trans (Er hg zO zO)⟩
def bK (p r i x:Nat):Nat:=((x+jF p r i)%p)^(Mb p).2.2%p
def St.at_ (s:St) (i:Nat):Nat:=if i=0 then s.a else if i=1 then s.b else s.c
def SG (f:Nat -> Nat -> Nat) (s:St):Nat -> St
 | 0=>s
 | 1=>⟨f 0 s.a,s.b,s.c⟩
 | 2=>⟨f 0 s.a,f 1 s.b,s.c⟩
 | _=>⟨f 0 s.a,f 1 s.b,f 2 s.c⟩
def roundP (p r:Nat) (s:St):St:=BN p (SG (bK p r) s 3)
def QD (p:Nat) (s:St):Nat -> St
 | 0=>s
 | r+1=>roundP p r (QD p s r)
def PD (p:Nat) (s:St):St:=QD p s 8
theorem St.cs_at (s:St) {i:Nat} (h:i<3):s.cs[i]?=vE (vd vn (s.at_ i:Int)):=by
 rcases (show i=0 \/ i=1 \/ i=2 by omega) with rfl | rfl | rfl <;> rfl
theorem zI6 (f:Nat -> Nat -> Nat) (s:St) {i:Nat} (h:i<3):(SG f s i).at_ i=s.at_ i:=by
 rcases (show i=0 \/ i=1 \/ i=2 by omega) with rfl | rfl | rfl <;> rfl
theorem zI7 (f:Nat -> Nat -> Nat) (s:St) {i:Nat} (h:i<3):(SG f s i).cs.setIfInBounds i (vd vn (f i (s.at_ i):Int))=(SG f s (i+1)).cs:=by
 rcases (show i=0 \/ i=1 \/ i=2 by omega) with rfl | rfl | rfl <;> simp [SG,St.cs,St.at_]
theorem zIp {p:Nat} (h:Jb p=true):(Mb p).1<18446744073709551616 /\ (Mb p).2.2<18446744073709551616:=by
 rcases cu h with rfl | rfl | rfl | rfl | rfl | rfl | rfl <;> exact ⟨zD,zD⟩
theorem S9 (p:Nat) (s:St) (w:vw) (hp:Jb p=true) :
  vB prog 300 #[vd vn p,s.val] w fun e w'=>e=vl (PD p s).val /\ vA w.1.size w w':=by
 have HV:=zH (fun w=>zp p w hp)
 have HE:=zH (fun w=>zD8 p w hp)
 have HC:=zH (fun r i w hr hi=>zGS p r i w hp hr hi)
 have HA:=zH (fun a b w=>mn p a b w hp)
 have HP:=zH (fun a n w hn=>zD9 p a n w hp hn)
 have HM:=zH (fun s w=>zGX p s w hp)
 have Bi:=(zIp hp).2;have HSB:=zH (show ∀ r i x,bK p r i x=((x+jF p r i)%p)^(Mb p).2.2%p from fun _ _ _=>rfl)
 clear hp;unfold fv at *;generalize (Mb p).2.2=ex at *;have HEL:=zH Bi;clear Bi;obtain ⟨k1,k2,k3,da,jb⟩:=oq w 298 298 224 s.cs #[vd vn 0,vd vn 0,vd vn 0] #[vd vn p];have HPO:=zH (show (PD p s).val=(QD p s 8).val from rfl)
 rw [HPO.out];clear HPO;unfold St.cs at k1 k2 k3 da jb;have ev:s.val=vf #[vd vn s.a,vd vn s.b,vd vn s.c]:=rfl;rw [ev];clear ev;go_enter func300,ntmps300
 go_wp2_with fail
 generalize ((w.alloc _).alloc _).alloc _=w0 at k1 k2 k3 da jb |-;refine (HV.out _).mono ?_;rintro e w1 ⟨rfl,Ia⟩;replace k1:=ia k1 Ia;replace k2:=ia k2 Ia;replace k3:=ia k3 Ia;replace da:=ma da Ia;clear Ia jb;have c3:=k3.cell;go_wp2_with fail
 refine (HE.out _).mono ?_;rintro e w2 ⟨rfl,Ba⟩;replace k1:Blk w2 w.1.size 298 (QD p s 0).cs:=ia k1 Ba;replace k2:=ia k2 Ba;replace k3:=ia k3 Ba;replace da:=ma da Ba;clear Ba c3 HV HE;go_wp2_with fail
 go_loopw [17] (fun i wr=>∃ r:Nat,r <= 8 /\ i=vd vq r /\ Blk wr w.1.size 298 (QD p s r).cs /\ Blk wr (w.1.size+1) 298 #[vd vn 0,vd vn 0,vd vn 0] /\ Blk wr (w.1.size+1+1) 224 #[vd vn p] /\ vA w.1.size w wr) (fun i _=>8-(intOf i).toNat)
 case atStart=>exact ⟨0,Kb _,rfl,k1,k2,k3,da⟩
 case round =>
  clear k1 k2 k3 da;obtain ⟨r,hr,rfl,k1,k2,k3,da⟩:=hrel;by_cases ta:r<8
  ·have g1:(r:Int)<8:=by omega
   obtain ⟨t,ht⟩:=zEX (QD p s r);rw [<- ht] at k1;have HT:=zH (show QD p s (r+1)=BN p (SG (bK p r) t 3) by rw [QD,<- ht];rfl)
   clear ht;go_wp2_with fail
   go_loopw [20] (fun i wr=>∃ m:Nat,m <= 3 /\ i=vd vq m /\ Blk wr w.1.size 298 (SG (bK p r) t m).cs /\ Blk wr (w.1.size+1) 298 #[vd vn 0,vd vn 0,vd vn 0] /\ Blk wr (w.1.size+1+1) 224 #[vd vn p] /\ vA w.1.size w wr) (fun i _=>3-(intOf i).toNat)
   case atStart=>exact ⟨0,Kb _,rfl,k1,k2,k3,da⟩
   case round =>
    clear k1 k2 k3 da;obtain ⟨m,hm,rfl,k1,k2,k3,da⟩:=hrel;by_cases Ck:m<3
    ·have g2:(m:Int)<3:=by omega
     have cm:=k1.cell m;rw [St.cs_at _ Ck,zI6 _ _ Ck] at cm;have HSET:=zH (zI7 (bK p r) t Ck);have HSV:=zH (HSB.out r m (t.at_ m));have Il:=zH (fun w=>HC.out r m w ta Ck)
     have Pk:=zH (fun w=>HA.out (t.at_ m) (jF p r m) w)
     have Jv:=zH (fun w=>HP.out ((t.at_ m+jF p r m)%p) ex w HEL.out)
     rw [<- HSV.out] at Jv;clear HSV;generalize bK p r m (t.at_ m)=sv at *;generalize (t.at_ m+jF p r m)%p=av at *;generalize jF p r m=cv at *;generalize t.at_ m=xv at *;have c3:=k3.cell;have l1:=k1.lt;have l3:=k3.lt;go_wp2_with fail
     refine kh (Wb) (oa) [14] [14] [0,1,2,3,4,5,6,7,8,9,10,11,12,13,14] zK zK ?_;refine lh (oa) ?_;intro Wc ea;refine Xe ?_;refine Nd oa rfl rfl rfl rfl (fun w' hR=>Il.out _) ?_
     refine zPU ?_;refine Xe ?_;refine Nd oa rfl rfl rfl rfl (fun w' hR=>Pk.out _) ?_
     refine zPU ?_;refine Xe ?_;refine Nd oa rfl rfl rfl rfl (fun w' hR=>Jv.out _) ?_
     refine zPU ?_;refine Xe ?_;refine Oo rfl rfl rfl rfl ?_;intro wh Qd;replace ea:=zM oa ea Qd;replace k1:=k1.drew.below ea k1.lt;replace k2:=k2.drew.below ea k2.lt;replace k3:=k3.drew.below ea k3.lt;replace da:=ma da.drew ea;have f1:=k1.frozen m;have aA:wh.cell? ⟨w.1.size,m,vD⟩=vE (vd vn xv):=zCY ea cm;clear c3 l1 l3 cm;go_simp;refine ⟨fun h=>Bool.noConfusion h,?_⟩
     have hg:wh.grownBy (wh.setCell ⟨w.1.size,m,vD⟩ (vd vn sv)) (vE w.1.size):=mh (p:=⟨w.1.size,m,vD⟩) (Ce wh _) (.inl rfl) _;replace k1:=k1.set_ m (vd vn sv);rw [HSET.out] at k1;replace k2:=k2.grown hg (fun e=>by have:=Ya e;omega)
     replace k3:=k3.grown hg (fun e=>by have:=Ya e;omega)
     replace da:=da.trans (Er hg da.size zR);clear hg f1 aA;generalize wh.setCell _ _=Wf at k1 k2 k3 da |-;refine Up rfl ?_;go_wp2
     go_roundw
     case rel=>exact ⟨m+1,zO,by go_num,k1,k2,k3,da⟩
     case measure=>simp [intOf];omega
    ·obtain rfl:m=3:=by omega
     obtain ⟨q,hq⟩:=zEX (SG (bK p r) t 3);rw [<- hq] at k1 HT;clear hq;have Gi:Blk wr w.1.size 298 #[vd vn q.a,vd vn q.b,vd vn q.c]:=k1;obtain ⟨z,hz⟩:=zEX (BN p q);rw [<- hz] at HT;have Of:=zH (show ∀ w,vB prog 316 #[vd vn p,vf #[vd vn q.a,vd vn q.b,vd vn q.c]] w fun e w'=>e=vl (vf #[vd vn z.a,vd vn z.b,vd vn z.c]) /\ vA w.1.size w w' from fun w=>by rw [hz];exact HM.out q w)
     clear hz k1;have c1:=Gi.cell;go_wp2_with fail
     refine (Of.out _).mono ?_;rintro e w5 ⟨rfl,Za⟩;replace Gi:=Gi.below Za Gi.lt;replace k2:=ia k2 Za;replace k3:=ia k3 Za;replace da:=ma da Za;clear Za c1;have c1:=Gi.cell;have f1:=Gi.frozen;go_wp2_with fail
     have hg:=PG (w:=w5) (g:=w.1.size) (vd vn z.a) (vd vn z.b) (vd vn z.c);have kz:=OG Gi (vd vn z.a) (vd vn z.b) (vd vn z.c);replace k2:=k2.grown hg (fun e=>by have:=Ya e;omega)
     replace k3:=k3.grown hg (fun e=>by have:=Ya e;omega)
     replace da:=da.trans (Er hg da.size zR);clear hg c1 f1 Gi;generalize ((vF w5 _ _).setCell _ _).setCell _ _=Wf at kz k2 k3 da |-
     go_roundw
     case rel=>exact ⟨r+1,zO,by go_num,by rw [HT.out];exact kz,k2,k3,da⟩
     case measure=>simp [intOf];omega
  ·obtain rfl:r=8:=by omega
   obtain ⟨q,hq⟩:=zEX (QD p s 8);rw [<- hq] at k1;have HQ:=zH hq;clear hq;have Gi:Blk wr w.1.size 298 #[vd vn q.a,vd vn q.b,vd vn q.c]:=k1;have c1:=Gi.cell;have c2:=k2.cell;have f2:=k2.frozen;go_wp2_with fail
   have hg:=PG (w:=wr) (g:=w.1.size+1) (vd vn q.a) (vd vn q.b) (vd vn q.c);have kz:=OG k2 (vd vn q.a) (vd vn q.b) (vd vn q.c);clear c1 c2 f2 k2;generalize ((vF wr _ _).setCell _ _).setCell _ _=Wf at hg kz |-;have cz:=kz.cell;have hs:=da.size;exact Sc (v:=vf #[vd vn q.a,vd vn q.b,vd vn q.c]) (by simp [results,results300,go_sem,cz]) rfl ⟨by rw [<- HQ.out];rfl,da.trans (Er hg hs zO)⟩
theorem Ww {w w':vw} {p:vy} {v:vx} (hR:Wb w w') (h:w.cell? p=vE v):w'.cell? p=vE v:=(Below.cell hR (Gf _ _ h)).trans h
def Yc (p:Nat) (pub vars:Int) (rows:List Ua):Bool :=
 Jb p&&!decide (pub<0)&&!decide (vars <= pub)&&!decide (65536<vars)&&!decide ((16384:Int)<rows.length)&&rows.all (On p vars)
theorem VN (p:Nat) (pub vars:Int) (A:Option vy) (n c:Nat) (rows:List Ua) (w:vw) (hr:RSl 3 je w [ve A n c] rows) (hp:p<18446744073709551616) :
  vB prog 110 #[Zb p pub vars (ve A n c)] w fun e w'=>e=vl (.bool (Yc p pub vars rows)) /\ vA w.1.size w w':=by
 obtain ⟨A',n',c',he,hlen,Sd,Ze,Ra⟩:=hr;simp at he
 obtain ⟨rfl,rfl,rfl⟩:=he;subst hlen;unfold Zb;cases b1:Jb p
 ·have E:=zH (show Yc p pub vars rows=false by simp [Yc,b1])
  have B1:=zH b1;clear b1;go_enter func110,ntmps110
  go_wp2_with (go_at_call 152;refine (VD p _ hp).mono ?_;rintro e w1 ⟨rfl,hb⟩;rw [B1.out];have hB:=(Blk.new w _ _).below hb zS;have Ia:vA w.1.size w w1:=ma ((tb _ w).alloc zR _) hb;have t1:w1.cell? ⟨w.1.size,1,vD⟩=vE (vd vq pub):=hB.cell 1;have t2:w1.cell? ⟨w.1.size,2,vD⟩=vE (vd vq vars):=hB.cell 2;have t3:w1.cell? ⟨w.1.size,3,vD⟩=vE (ve A rows.length c):=hB.cell 3;clear hb)
  go_ret
  exact ⟨by rw [E.out];rfl,Ia⟩
 have B1:=zH b1;by_cases z1:pub<0
 ·have E:=zH (show Yc p pub vars rows=false by unfold Yc;rw [xb z1];simp)
  have d1:=xb z1;clear b1;go_enter func110,ntmps110
  go_wp2_with (go_at_call 152;refine (VD p _ hp).mono ?_;rintro e w1 ⟨rfl,hb⟩;rw [B1.out];have hB:=(Blk.new w _ _).below hb zS;have Ia:vA w.1.size w w1:=ma ((tb _ w).alloc zR _) hb;have t1:w1.cell? ⟨w.1.size,1,vD⟩=vE (vd vq pub):=hB.cell 1;have t2:w1.cell? ⟨w.1.size,2,vD⟩=vE (vd vq vars):=hB.cell 2;have t3:w1.cell? ⟨w.1.size,3,vD⟩=vE (ve A rows.length c):=hB.cell 3;clear hb)
  go_ret
  exact ⟨by rw [E.out];rfl,Ia⟩
 have d1:=db z1;by_cases z2:vars <= pub
 ·have E:=zH (show Yc p pub vars rows=false by unfold Yc;rw [xb z2];simp)
  have d2:=xb z2;clear b1;go_enter func110,ntmps110
  go_wp2_with (go_at_call 152;refine (VD p _ hp).mono ?_;rintro e w1 ⟨rfl,hb⟩;rw [B1.out];have hB:=(Blk.new w _ _).below hb zS;have Ia:vA w.1.size w w1:=ma ((tb _ w).alloc zR _) hb;have t1:w1.cell? ⟨w.1.size,1,vD⟩=vE (vd vq pub):=hB.cell 1;have t2:w1.cell? ⟨w.1.size,2,vD⟩=vE (vd vq vars):=hB.cell 2;have t3:w1.cell? ⟨w.1.size,3,vD⟩=vE (ve A rows.length c):=hB.cell 3;clear hb)
  go_ret
  exact ⟨by rw [E.out];rfl,Ia⟩
 have d2:=db z2;by_cases z3:65536<vars
 ·have E:=zH (show Yc p pub vars rows=false by unfold Yc;rw [xb z3];simp)
  have d3:=xb z3;clear b1;go_enter func110,ntmps110
  go_wp2_with (go_at_call 152;refine (VD p _ hp).mono ?_;rintro e w1 ⟨rfl,hb⟩;rw [B1.out];have hB:=(Blk.new w _ _).below hb zS;have Ia:vA w.1.size w w1:=ma ((tb _ w).alloc zR _) hb;have t1:w1.cell? ⟨w.1.size,1,vD⟩=vE (vd vq pub):=hB.cell 1;have t2:w1.cell? ⟨w.1.size,2,vD⟩=vE (vd vq vars):=hB.cell 2;have t3:w1.cell? ⟨w.1.size,3,vD⟩=vE (ve A rows.length c):=hB.cell 3;clear hb)
  go_ret
  exact ⟨by rw [E.out];rfl,Ia⟩
 have d3:=db z3;by_cases z4:(16384:Int)<rows.length
 ·have E:=zH (show Yc p pub vars rows=false by unfold Yc;rw [xb z4];simp)
  have d4:=xb z4;clear b1;go_enter func110,ntmps110
  go_wp2_with (go_at_call 152;refine (VD p _ hp).mono ?_;rintro e w1 ⟨rfl,hb⟩;rw [B1.out];have hB:=(Blk.new w _ _).below hb zS;have Ia:vA w.1.size w w1:=ma ((tb _ w).alloc zR _) hb;have t1:w1.cell? ⟨w.1.size,1,vD⟩=vE (vd vq pub):=hB.cell 1;have t2:w1.cell? ⟨w.1.size,2,vD⟩=vE (vd vq vars):=hB.cell 2;have t3:w1.cell? ⟨w.1.size,3,vD⟩=vE (ve A rows.length c):=hB.cell 3;clear hb)
  go_ret
  exact ⟨by rw [E.out];rfl,Ia⟩
 have d4:=db z4;have E:=zH (show Yc p pub vars rows=rows.all (On p vars) by unfold Yc;rw [b1,d1,d2,d3,d4];simp)
 clear b1;go_enter func110,ntmps110
 go_wp2_with (go_at_call 152;refine (VD p _ hp).mono ?_;rintro e w1 ⟨rfl,hb⟩;rw [B1.out];have hB:=(Blk.new w _ _).below hb zS;have Ia:vA w.1.size w w1:=ma ((tb _ w).alloc zR _) hb;have t1:w1.cell? ⟨w.1.size,1,vD⟩=vE (vd vq pub):=hB.cell 1;have t2:w1.cell? ⟨w.1.size,2,vD⟩=vE (vd vq vars):=hB.cell 2;have t3:w1.cell? ⟨w.1.size,3,vD⟩=vE (ve A rows.length c):=hB.cell 3;clear hb)
 go_loopw [3] (fun i wr=>∃ j:Nat,j <= rows.length /\ i=vd vq j /\ vA w1.1.size w1 wr /\ Hid (∀ k<j,∀ h:k<rows.length,On p vars rows[k]=true))
  (fun i _=>rows.length-(intOf i).toNat)
 case atStart=>exact ⟨0,Kb _,rfl,tb _ _,fun k hk=>zO⟩
 case round =>
  obtain ⟨j,hj,rfl,yb,HB⟩:=hrel;have s3:wr.cell? ⟨w.1.size,3,vD⟩=vE (ve A rows.length c):=(ia hB yb).cell 3;by_cases ta:j<rows.length
  ·have Gt:Blk wr.drew w.1.size 25 _:=hB.below yb.drew hB.lt
   have Ib:vA w.1.size w wr.drew:=ma Ia yb.drew;obtain ⟨b,q,rfl⟩:=Ra.base zO zO;obtain ⟨cs,-,hc,x,y,z,rfl,td,Ie,ud⟩:=(Ra.below Og Ib).get ta;have h0:wr.drew.cell? ⟨b,q+j*3,vD⟩=vE x:=hc 0 zO;have h1:wr.drew.cell? ⟨b,q+j*3+1,vD⟩=vE y:=hc 1 zO;have h2:wr.drew.cell? ⟨b,q+j*3+2,vD⟩=vE z:=hc 2 zO;have HL:=zH ta;have i1:(0:Int)<=j:=by omega
   have i2:(j:Int)<rows.length:=by omega
   clear hc;cases bo:On p vars rows[j]
   ·have HO:=zH bo
    clear bo;go_wp2_with fail
    refine lO Wb zK ?_;refine Qm 0 (v:=Zb p pub vars (ve (vE ⟨b,q,vD⟩) rows.length c)) oa zD zK zK zK (fun _ _ _ h=>h) (ju (by rfl) ?_) ?_;· ( intro w' hR;simp only [Vg,Ig];unfold Zb;have q0:=(ia Gt hR).cell 0;have q1:=(ia Gt hR).cell 1;have q2:=(ia Gt hR).cell 2;have q3:=(ia Gt hR).cell 3;simp at q0 q1 q2 q3;go_simp )
    simp only [vG,Vg,Ig,Fa,Ha,Ga];refine Qm 1 (v:=?_) oa zD zK zK zK (fun _ _ _ h=>h) (ju (by rfl) ?_) ?_;rotate_left;· ( intro w' hR;simp only [Vg,Ig];go_simp;try with_reducible rfl )
    simp only [vG,Vg,Ig,Fa,Ha,Ga];refine Qm 2 (v:=ve (vE ⟨b,q,vD⟩) rows.length c) oa zD zK zK zK (fun _ _ _ h=>h) (ju (by rfl) ?_) ?_;· ( intro w' hR;simp only [Vg,Ig];have q3:=(ia Gt hR).cell 3;simp at q3;go_simp )
    simp only [vG,Vg,Ig,Fa,Ha,Ga];refine Qm 3 (v:=?_) oa zD zK zK zK (fun _ _ _ h=>h) (ju (by rfl) ?_) ?_;rotate_left;· ( intro w' hR;simp only [Vg,Ig];go_simp;try with_reducible rfl )
    simp only [vG,Vg,Ig,Fa,Ha,Ga];refine Qm 4 (v:=?_) oa zD zK zK zK (fun _ _ _ h=>h) (ju (by rfl) ?_) ?_;rotate_left;· ( intro w' hR;simp only [Vg,Ig];go_simp;try with_reducible rfl )
    simp only [vG,Vg,Ig,Fa,Ha,Ga];refine Qm 5 (v:=vf #[x,y,z]) oa zD zK zK zK (fun _ _ _ h=>h) (ju (by rfl) ?_) ?_;· ( intro w' hR;simp only [Vg,Ig];have r0:=Ww hR h0;have r1:=Ww hR h1;have r2:=Ww hR h2;go_simp )
    simp only [vG,Vg,Ig,Fa,Ha,Ga];refine zCa 6 oa zD zK (by rfl) ((zAs p pub vars (ve (vE ⟨b,q,vD⟩) rows.length c) rows[j] x y z _ td Ie ud hp).mono ?_) (fun _=>by simp only [Vg,Ig];go_simp)
    rintro e w3 ⟨rfl,Ta⟩;rw [HO.out];refine ⟨_,rfl,Ta,?_⟩;simp only [vG,Vg,Ig,Fa,Ha,Ga];refine Qm 7 (v:=?_) oa zD zK zK zK (fun _ _ _ h=>h) (ju (by rfl) ?_) ?_;rotate_left;· ( intro w' hR;simp only [Vg,Ig];go_simp;try with_reducible rfl )
    simp only [vG,Vg,Ig,Fa,Ha,Ga];refine gY zK ?_;go_wp2;go_ret
    refine ⟨by rw [E.out,Oz.2 ⟨rows[j],He HL.out,fun h=>Bool.noConfusion (HO.out.symm.trans h)⟩];rfl,ma Ib Ta⟩
   ·have HO:=zH bo
    clear bo;go_wp2_with fail
    refine lO Wb zK ?_;refine Qm 0 (v:=Zb p pub vars (ve (vE ⟨b,q,vD⟩) rows.length c)) oa zD zK zK zK (fun _ _ _ h=>h) (ju (by rfl) ?_) ?_;· ( intro w' hR;simp only [Vg,Ig];unfold Zb;have q0:=(ia Gt hR).cell 0;have q1:=(ia Gt hR).cell 1;have q2:=(ia Gt hR).cell 2;have q3:=(ia Gt hR).cell 3;simp at q0 q1 q2 q3;go_simp )
    simp only [vG,Vg,Ig,Fa,Ha,Ga];refine Qm 1 (v:=?_) oa zD zK zK zK (fun _ _ _ h=>h) (ju (by rfl) ?_) ?_;rotate_left;· ( intro w' hR;simp only [Vg,Ig];go_simp;try with_reducible rfl )
    simp only [vG,Vg,Ig,Fa,Ha,Ga];refine Qm 2 (v:=ve (vE ⟨b,q,vD⟩) rows.length c) oa zD zK zK zK (fun _ _ _ h=>h) (ju (by rfl) ?_) ?_;· ( intro w' hR;simp only [Vg,Ig];have q3:=(ia Gt hR).cell 3;simp at q3;go_simp )
    simp only [vG,Vg,Ig,Fa,Ha,Ga];refine Qm 3 (v:=?_) oa zD zK zK zK (fun _ _ _ h=>h) (ju (by rfl) ?_) ?_;rotate_left;· ( intro w' hR;simp only [Vg,Ig];go_simp;try with_reducible rfl )
    simp only [vG,Vg,Ig,Fa,Ha,Ga];refine Qm 4 (v:=?_) oa zD zK zK zK (fun _ _ _ h=>h) (ju (by rfl) ?_) ?_;rotate_left;· ( intro w' hR;simp only [Vg,Ig];go_simp;try with_reducible rfl )
    simp only [vG,Vg,Ig,Fa,Ha,Ga];refine Qm 5 (v:=vf #[x,y,z]) oa zD zK zK zK (fun _ _ _ h=>h) (ju (by rfl) ?_) ?_;· ( intro w' hR;simp only [Vg,Ig];have r0:=Ww hR h0;have r1:=Ww hR h1;have r2:=Ww hR h2;go_simp )
    simp only [vG,Vg,Ig,Fa,Ha,Ga];refine zCa 6 oa zD zK (by rfl) ((zAs p pub vars (ve (vE ⟨b,q,vD⟩) rows.length c) rows[j] x y z _ td Ie ud hp).mono ?_) (fun _=>by simp only [Vg,Ig];go_simp)
    rintro e w3 ⟨rfl,Ta⟩;rw [HO.out];refine ⟨_,rfl,Ta,?_⟩;simp only [vG,Vg,Ig,Fa,Ha,Ga];refine Qm 7 (v:=?_) oa zD zK zK zK (fun _ _ _ h=>h) (ju (by rfl) ?_) ?_;rotate_left;· ( intro w' hR;simp only [Vg,Ig];go_simp;try with_reducible rfl )
    simp only [vG,Vg,Ig,Fa,Ha,Ga];refine gY zK ?_;go_wp2
    go_roundw
    case rel =>
     refine ⟨j+1,zO,by go_num,ma yb.drew Ta,fun k hk h=>?_⟩
     rcases Wg k j with h5 | h5
     ·exact HB.out k h5 h
     ·have e:k=j:=by omega
      subst e;exact HO.out
    case measure=>simp [intOf];omega
  ·go_wp2
   go_ret
   have e:j=rows.length:=by omega
   refine ⟨by rw [E.out,fe.2 (fun r hr=>by obtain ⟨k,hk,rfl⟩:=Ym hr;exact HB.out k zO hk)];rfl,ma Ia yb⟩
def yi (p:Nat) (vars:Int) (l:List Nat):Bool:=!((l.length:Int) != vars)&&!((l.length:Int) == 0)&&!(((l.getD 0 0:Nat):Int) != 1)&&l.all fun x=>decide (x<p)
theorem RWd.at_ {w:vw} {A:Option vy} {l:List Nat} (h:Rd w 1 A l.length (Oa l)) {i:Nat} (hi:i<l.length):∃ ad,A=vE ad /\ w.cell? (ad.add i)=vE (vd vn ((l.getD i 0:Nat):Int)):=by
 obtain ⟨ad,u,rfl,hu,hc⟩:=h.at_ hi;rw [ZB hi] at hu
 injection hu with hu
 subst hu;exact ⟨ad,rfl,by simpa [hi] using hc⟩
theorem MW (p:Nat) (pub vars:Int) (T:vx) (A:Option vy) (n c:Nat) (l:List Nat) (w:vw) (hl:RWd w [ve A n c] l) (_hp:p<18446744073709551616) :
  vB prog 111 #[Zb p pub vars T,ve A n c] w fun e w'=>e=vl (.bool (yi p vars l)) /\ vA w.1.size w w':=by
 obtain ⟨A',n',c',he,Sd,Ze,Ra,ta⟩:=hl;simp at he
 obtain ⟨rfl,rfl,rfl⟩:=he;have hlen:=Ra.len1;rw [Vt] at hlen;subst hlen;unfold Zb;have da:∀ o,vA w.1.size w (w.alloc o):=fun o=>(tb _ w).alloc zR _
 by_cases z1:(l.length:Int)=vars
 ·subst z1
  rcases dp l.length with z2 | z2
  ·have E:=zH (show yi p (l.length:Int) l=false by simp [yi,z2])
   rw [z2];rw [z2] at E;go_enter func111,ntmps111
   go_wp2_with fail
   go_ret
   exact ⟨by rw [E.out];rfl,da _⟩
  ·obtain ⟨ad,rfl,hc⟩:=RWd.at_ (Ra.below (da (.cells #[vd vn p,vd vq pub,vd vq l.length,T] 25))) z2
   have g0:((l.length:Int) == 0)=false:=by rw [Gd];omega
   have g1:(0:Int)<l.length:=by omega
   have gm:(l.length:Int) <= 9223372036854775807:=by
    have h3:=Sd;have h4:=Ze;simp [maxLen] at h4
    omega
   by_cases z3:l.getD 0 0=1
   ·have Zg:(w.alloc (.cells #[vd vn p,vd vq pub,vd vq l.length,T] 25)).cell? ad=vE (vd vn 1):=by
     rw [z3] at hc
     simpa [Addr.add] using hc
    have E:=zH (show yi p (l.length:Int) l=l.all fun x=>decide (x<p) by unfold yi;rw [z3,g0];simp)
    clear hc z3;go_enter func111,ntmps111
    go_wp2_with fail
    go_loopw [5] (fun i wr=>∃ j kk:Nat,j <= l.length /\ i=vd vq j /\ wr=(w.alloc (.cells #[vd vn p,vd vq pub,vd vq l.length,T] 25)).drewN kk /\ Hid (∀ k<j,l.getD k 0<p))
     (fun i _=>l.length-(intOf i).toNat)
    case atStart=>exact ⟨0,0,Kb _,rfl,rfl,fun k hk=>zO⟩
    case round =>
     obtain ⟨j,kk,hj,rfl,rfl,HB⟩:=hrel;by_cases Di:j<l.length
     ·obtain ⟨ad',he',hc⟩:=RWd.at_ (Ra.below (da (.cells #[vd vn p,vd vq pub,vd vq l.length,T] 25))) Di
      injection he' with he'
      subst he';have g2:(0:Int)<=j:=by omega
      have g3:(j:Int)<l.length:=by omega
      have HL:=zH Di;have HY:Hid (l.getD j 0=l.getD j 0):=rfl;revert hc HY
      generalize hy:l.getD j 0=y;intro hc _;have HY:=zH hy;clear hy;by_cases z4:p <= y
      ·have d4:decide ((p:Int)<=y)=true:=xb zO
       have HZ:=zH z4;clear Ra z4;go_wp2_with fail
       go_quiet (fail)
       go_wp2;go_ret
       have HA:(l.all fun x=>decide (x<p))=false:=by
        refine Oz.2 ⟨l[j]'HL.out,He HL.out,?_⟩;have h1:=HY.out;have h2:=HZ.out;simp [HL.out] at h1
        simp [h1]
        omega
       exact ⟨by rw [E.out,HA];rfl,yt (yt (da _) _) _⟩
      ·have d4:decide ((p:Int)<=y)=false:=db zO
       have HZ:=zH z4;clear Ra z4;go_wp2_with fail
       go_quiet (fail)
       go_wp2
       go_roundw
       case rel =>
        refine ⟨j+1,_,zO,by go_num,rfl,fun k hk=>?_⟩
        rcases Wg k j with h5 | h5
        ·exact HB.out k h5
        ·have e:k=j:=by omega
         subst e;have h1:=HY.out;have h2:=HZ.out;omega
       case measure=>simp [intOf];omega
     ·go_wp2
      go_ret
      have e:j=l.length:=by omega
      have HA:(l.all fun x=>decide (x<p))=true:=by
       refine fe.2 ?_;intro x hx;obtain ⟨k,hk,rfl⟩:=Ym hx;have:=HB.out k zO
       simpa [hk] using this
      exact ⟨by rw [E.out,HA];rfl,yt (da _) _⟩
   ·have Zg:(w.alloc (.cells #[vd vn p,vd vq pub,vd vq l.length,T] 25)).cell? ad=vE (vd vn ((l.getD 0 0:Nat):Int)):=by simpa [Addr.add] using hc
    have d3:(((l.getD 0 0:Nat):Int) != 1)=true:=by rw [ef];omega
    have E:=zH (show yi p (l.length:Int) l=false by unfold yi;rw [d3];simp)
    clear hc z3;revert Zg d3
    generalize l.getD 0 0=y;intro Zg d3;go_enter func111,ntmps111
    go_wp2_with fail
    go_ret
    exact ⟨by rw [E.out];rfl,da _⟩
 ·have d1:((l.length:Int) != vars)=true:=by rw [ef];exact z1
  have E:=zH (show yi p vars l=false by simp [yi,z1])
  go_enter func111,ntmps111
  go_wp2_with fail
  go_ret
  exact ⟨by rw [E.out];rfl,da _⟩
theorem zBE (n k:Nat) (w:vw) (hn:n <= 1000000000) (hk:0<k) (hk2:k <= 1000000000) :
  vB prog 155 #[vd vq n,vd vq k] w fun e w'=>e=vl (vd vq (((n+k-1) / k:Nat):Int)) /\ w'=w:=by
 obtain ⟨m,rfl⟩:∃ m,k=m+1:=⟨k-1,zO⟩;have e1:Hid (((n+(m+1)-1) / (m+1):Nat)=(n+m) / (m+1)):=rfl;go_enter func155,ntmps155
 go_wp2_with fail
 go_ret
 refine ⟨?_,rfl⟩;show Ending.returned (vd vq (((n:Int)+((m:Int)+1)-1) / ((m:Int)+1)))=_
 rw [show (n:Int)+((m:Int)+1)-1=((n+(m+1)-1:Nat):Int) from by omega]
 rfl
theorem pz {w:vw} {A:Option vy} {n:Nat} {xs:List vx} (h:Rd w 1 A n xs) (hn:0<n):∃ b q,A=vE ⟨b,q,vD⟩ /\ b<w.1.size /\ ∀ k,k<n -> w.cell? ⟨b,q+k,vD⟩=xs[k]?:=by
 obtain ⟨ad,rfl,hc⟩:=h.2 hn;have hl:=h.len1;have h0:=hc 0 _ (Qb zO);obtain ⟨b,q,rfl⟩:∃ b q,ad=⟨b,q,vD⟩:=by
  have hs:=World.cell?_spot h0;rw [DY] at hs;obtain ⟨b,q,s⟩:=ad;simp at hs
  subst hs;exact ⟨b,q,rfl⟩
 refine ⟨b,q,rfl,Gf _ _ (by rw [DY] at h0;exact h0),fun k hk=>?_⟩
 rw [<- zm,hc k _ (Qb zO),Qb zO]
def Fs (p:Nat) (ws:List Nat) (s:Nat) (t:Int × Nat):Nat:=if 0 <= t.1 /\ t.1<(ws.length:Int) then (s+t.2*ws.getD t.1.toNat 0%p)%p else s
def Dc (p:Nat) (l:List (Int × Nat)) (ws:List Nat):Nat:=l.foldl (Fs p ws) 0
theorem IQ (p:Nat) (l:List (Int × Nat)) (ws:List Nat) (j:Nat) (h:j<l.length):Dc p (l.take (j+1)) ws=Fs p ws (Dc p (l.take j) ws) (l.getD j (0,0)):=by
 unfold Dc;rw [Lv h,List.foldl_append];simp [h]
theorem NW (p:Nat) (A B:Option vy) (len c n d:Nat) (l:List (Int × Nat)) (ws:List Nat) (w:vw) (hl:RLin w [ve A len c] l) (hw:RWd w [ve B n d] ws) (hp:Jb p=true) :
  vB prog 149 #[vd vn p,ve A len c,ve B n d] w fun e w'=>e=vl (vd vn (Dc p l ws:Nat)) /\ vA w.1.size w w':=by
 obtain ⟨A',n',c',he,hlen,Sd,Ze,Ra⟩:=hl;simp at he
 obtain ⟨rfl,rfl,rfl⟩:=he;subst hlen;obtain ⟨B',m',d',he,Nt,hmy,Zf,hlw⟩:=hw;simp at he
 obtain ⟨rfl,rfl,rfl⟩:=he;have hm:ws.length=n:=by have:=Zf.len1;rwa [Vt] at this
 subst hm;have g0:(l.length:Int) <= 9223372036854775807:=by
  simp [maxLen] at Ze
  omega
 go_enter func149,ntmps149
 go_wp2_with fail
 go_loopw [7,8] (fun s i wr=>∃ j:Nat,j <= l.length /\ i=vd vq j /\ s=vd vn (Dc p (l.take j) ws:Nat) /\ vA w.1.size w wr)
  (fun _ i _=>l.length-(intOf i).toNat)
 case atStart=>exact ⟨0,Kb _,rfl,rfl,tb _ _⟩
 case round =>
  obtain ⟨j,hj,rfl,rfl,hb⟩:=hrel;by_cases ta:j<l.length
  ·have HS:=zH (IQ p l ws j ta)
   revert HS
   generalize Dc p (l.take j) ws=s;intro HS;obtain ⟨b,q,rfl⟩:=Ra.base zO zO;have Lw:=Ra.below pG hb;obtain ⟨c1,c2⟩:=RLin.at_ Lw ta;have Gb:=Gf _ _ c1;have HL:=zH ta;have g1:(0:Int)<=j:=by omega
   have g2:(j:Int)<l.length:=by omega
   have HW:=zH (fun (k:Nat) (hk:k<ws.length)=>(pz (Zf.below hb) zO).imp fun b' h=>h.imp fun q' h=>(⟨h.1,h.2.1,(h.2.2 k hk).trans (ZB hk)⟩:_ /\ _ /\ _=vE (vd vn (ws[k]:Int))))
   revert c1 c2 HS
   generalize hx:(l.getD j (0,0))=t;obtain ⟨x,y⟩:=t;clear hx;simp only;intro HS c1 c2;clear Ra Lw Zf;by_cases z1:x<0
   ·have d1:decide (0 <= x)=false:=db zO
    have HE:=zH (show Dc p (l.take (j+1)) ws=s by rw [HS.out,Fs,ya zT])
    go_wp2_with fail
    go_roundw
    case rel=>exact ⟨j+1,zO,by go_num,by rw [HE.out],hb⟩
    case measure=>simp [intOf];omega
   ·obtain ⟨k,rfl⟩:=dk (show 0 <= x by omega)
    by_cases z2:k<ws.length
    ·have d1:decide ((0:Int)<=k)=true:=xb zO
     have d2:decide ((k:Int)<ws.length)=true:=xb zO;obtain ⟨b',q',rfl,Ur,c3⟩:=HW.out k z2;have HE:=zH (show Dc p (l.take (j+1)) ws=(s+y*ws[k]%p)%p by rw [HS.out,Fs,Ka zT];show (s+y*ws.getD ((k:Int)).toNat 0%p)%p=_;rw [Rk,Fb,Qb z2,Option.getD_some])
     clear HW HS;revert c3 HE
     generalize ws[k]=v;have HM:=zH (fun w=>zAr p y v w hp)
     revert HM
     generalize y*v%p=m;intro HM c3 HE;have i1:(0:Int)<=k:=by omega
     have i2:(k:Int)<ws.length:=by omega
     go_wp2_with fail
     refine zd (Wb) [16,17] [0,1,2,3,4,5,6,7,8,9,10,11,12,13,14,15,16,17,18] zK zK ?_;refine Gv (oa) ?_;intro Wc ea;refine Pb ?_;refine Ic oa rfl rfl rfl ((HM.out _).mono ?_);rintro e w2 ⟨rfl,Ba⟩;refine ⟨_,rfl,Ba,?_⟩;replace ea:=zM oa ea (Ba);refine zPU ?_;refine Pb ?_;refine Ic oa rfl rfl rfl ((zHY p s m _ hp).mono ?_);rintro e w3 ⟨rfl,Ta⟩;refine ⟨_,rfl,Ta,?_⟩;replace ea:=zM oa ea (Ta);refine zPU ?_;refine Pb ?_;refine Hc ?_;go_wp2
     go_roundw
     case rel=>exact ⟨j+1,zO,by go_num,by rw [HE.out];rfl,ma hb.drew ea⟩
     case measure=>simp [intOf];omega
    ·have d1:decide ((0:Int)<=k)=true:=xb zO
     have d2:decide ((k:Int)<ws.length)=false:=db zO;have HE:=zH (show Dc p (l.take (j+1)) ws=s by rw [HS.out,Fs,ya zT])
     go_wp2_with fail
     go_roundw
     case rel=>exact ⟨j+1,zO,by go_num,by rw [HE.out],hb⟩
     case measure=>simp [intOf];omega
  ·go_wp2
   go_ret
   have e:j=l.length:=by omega
   subst e;exact ⟨by rw [qt];rfl,hb⟩
def qz (p:Nat) (r:Ua) (ws:List Nat):Bool:=decide (Dc p r.a ws*Dc p r.b ws%p=Dc p r.c ws)
theorem zH0 (p:Nat) (x y z:vx) (B:Option vy) (n d:Nat) (r:Ua) (ws:List Nat) (w:vw) (hx:RLin w [x] r.a) (hy:RLin w [y] r.b) (hz:RLin w [z] r.c) (hw:RWd w [ve B n d] ws) (hp:Jb p=true) :
  vB prog 207 #[vd vn p,vf #[x,y,z],ve B n d] w fun e w'=>e=vl (.bool (qz p r ws)) /\ vA w.1.size w w':=by
 obtain ⟨v1,Dj⟩:=zEX (Dc p r.a ws*Dc p r.b ws%p);obtain ⟨v2,sh⟩:=zEX (Dc p r.c ws);obtain ⟨ro,kV⟩:∃ ro,ro=qz p r ws:=⟨_,rfl⟩;have Pf:Hid (((v1:Int)==v2)=ro):=zH (by rw [kV];unfold qz;rw [<- Dj,<- sh];exact Bool.eq_iff_iff.2 zT)
 rw [<- kV];clear kV;have ao:=zH Dj;have Wo:=zH sh;clear Dj sh;obtain ⟨A1,n1,c1,rfl⟩:=RSl.slc hx;obtain ⟨A2,n2,c2,rfl⟩:=RSl.slc hy;obtain ⟨A3,n3,c3,rfl⟩:=RSl.slc hz;have da:vA w.1.size w (w.alloc (.cells #[ve A1 n1 c1,ve A2 n2 c2,ve A3 n3 c3] 211)):=(tb _ w).alloc zR _;have hB:=Blk.new w 211 #[ve A1 n1 c1,ve A2 n2 c2,ve A3 n3 c3];have HP:=zH hp;clear hp;revert da hB
 generalize Fo:w.alloc (.cells #[ve A1 n1 c1,ve A2 n2 c2,ve A3 n3 c3] 211)=w0;intro da hB;have HW0:=zH Fo;clear Fo;have k0:w0.cell? ⟨w.1.size,0,vD⟩=vE (ve A1 n1 c1):=hB.cell 0;have k1:w0.cell? ⟨w.1.size,1,vD⟩=vE (ve A2 n2 c2):=hB.cell 1;have k2:w0.cell? ⟨w.1.size,2,vD⟩=vE (ve A3 n3 c3):=hB.cell 2;have ta:=hB.lt;go_enter func207,ntmps207
 go_wp2_with fail
 rw [HW0.out];refine zd (Wb) [5,10,11,16] [0,1,2,3,4,6,7,8,9,12,13,14,15,5,10,11,16,17,18] zK zK ?_;refine Gv (oa) ?_;intro Wc ea;refine Pb ?_;refine Ic oa rfl rfl rfl ((NW p _ _ _ _ _ _ r.a ws _ (Mh _ _ _ _ (ma da.drew ea) hx) (Ab (ma da.drew ea) hw) HP.out).mono ?_);rintro e w2 ⟨rfl,Ba⟩;refine ⟨_,rfl,Ba,?_⟩;replace ea:=zM oa ea (Ba);refine zPU ?_;refine Pb ?_;refine Ic oa rfl rfl rfl ((NW p _ _ _ _ _ _ r.b ws _ (Mh _ _ _ _ (ma da.drew ea) hy) (Ab (ma da.drew ea) hw) HP.out).mono ?_);rintro e w3 ⟨rfl,Ta⟩;refine ⟨_,rfl,Ta,?_⟩;replace ea:=zM oa ea (Ta);refine zPU ?_;refine Pb ?_;refine Ic oa rfl rfl rfl ((zAr p (Dc p r.a ws) (Dc p r.b ws) _ HP.out).mono ?_);rintro e w4 ⟨rfl,Db⟩;refine ⟨_,rfl,Db,?_⟩;replace ea:=zM oa ea (Db);refine zPU ?_;rw [<- ao.out];refine Pb ?_;refine Ic oa rfl rfl rfl ((NW p _ _ _ _ _ _ r.c ws _ (Mh _ _ _ _ (ma da.drew ea) hz) (Ab (ma da.drew ea) hw) HP.out).mono ?_);rintro e w5 ⟨rfl,Za⟩;refine ⟨_,rfl,Za,?_⟩;replace ea:=zM oa ea (Za);refine zPU ?_;rw [<- Wo.out];have mf:=Pf.out;refine Pb ?_;refine Hc ?_;go_wp2;go_ret
 exact ⟨rfl,ma da.drew ea⟩
def tx (p:Nat) (rows:List Ua) (ws:List Nat):Bool:=rows.all fun r=>qz p r ws
theorem zAT {p:Nat} {rows:List Ua} {ws:List Nat} (h:∀ k (hk:k<rows.length),qz p rows[k] ws=true):tx p rows ws=true:=fe.2 fun r hr=>by
 obtain ⟨k,hk,rfl⟩:=Ym hr;exact h k hk
theorem zAU {p:Nat} {rows:List Ua} {ws:List Nat} {k:Nat} (hk:k<rows.length) (h:qz p rows[k] ws=false):tx p rows ws=false:=by
 cases e:tx p rows ws
 ·rfl
 ·have:=fe.1 e rows[k] (He hk)
  rw [h] at this;cases this
theorem ZG {p:Nat} {pub vars:Int} {rows:List Ua} (h:Yc p pub vars rows=true):Jb p=true:=by
 unfold Yc at h;simp only [Vb] at h;exact h.1.1.1.1.1
theorem zHZ (p:Nat) (pub vars:Int) (A B:Option vy) (n c m d:Nat) (rows:List Ua) (ws:List Nat) (w:vw) (hr:RSl 3 je w [ve A n c] rows) (hw:RWd w [ve B m d] ws)
  (ht:Yc p pub vars rows=true) (ha:yi p vars ws=true) :
  vB prog 112 #[Zb p pub vars (ve A n c),ve B m d] w fun e w'=>(∃ n:Int,e=vl (vd vq n) /\ decide (n<0)=tx p rows ws) /\ vA w.1.size w w':=by
 have Xa:=ZG ht;have hp:=(Rb Xa).2;have HV:=zH (fun w' (hb:vA w.1.size w w')=>VN p pub vars A n c rows w' (Pg Og _ _ _ _ hb hr) hp)
 have HA:=zH (fun w' (hb:vA w.1.size w w')=>MW p pub vars (ve A n c) B m d ws w' (Ab hb hw) hp)
 rw [ht] at HV;rw [ha] at HA;clear ht ha;have hr0:=hr;obtain ⟨A',n',c',he,hlen,Sd,Ze,Ra⟩:=hr;simp at he
 obtain ⟨rfl,rfl,rfl⟩:=he;subst hlen;unfold Zb;have gm:(rows.length:Int) <= 9223372036854775807:=by
  simp [maxLen] at Ze
  omega
 have da:vA w.1.size w (w.alloc (.cells #[vd vn p,vd vq pub,vd vq vars,ve A rows.length c] 25)):=(tb _ w).alloc zR _;have hB:=Blk.new w 25 #[vd vn p,vd vq pub,vd vq vars,ve A rows.length c];have HP:=zH hp;have HO:=zH Xa;clear hp Xa;go_enter func112,ntmps112
 go_wp2_with (first | (go_at_call 111;refine (HA.out _ (ma da hb)).mono ?_;rintro e w2 ⟨rfl,Ba⟩) | (go_at_call 110;refine (HV.out _ da).mono ?_;rintro e w1 ⟨rfl,hb⟩;have Jd:=hB.below hb zS;have t0:w1.cell? ⟨w.1.size,0,vD⟩=vE (vd vn p):=Jd.cell 0;have t1:w1.cell? ⟨w.1.size,1,vD⟩=vE (vd vq pub):=Jd.cell 1;have t2:w1.cell? ⟨w.1.size,2,vD⟩=vE (vd vq vars):=Jd.cell 2;have t3:w1.cell? ⟨w.1.size,3,vD⟩=vE (ve A rows.length c):=Jd.cell 3))
 clear t0 t1 t2 t3;have Fh:=ia Jd Ba;have Ib:=ma (ma da hb) Ba;clear Jd hB hb Ba da;go_loopw [5] (fun i wr=>∃ j:Nat,j <= rows.length /\ i=vd vq j /\ vA w2.1.size w2 wr /\ Hid (∀ k (hk:k<rows.length),k<j -> qz p rows[k] ws=true))
  (fun i _=>rows.length-(intOf i).toNat)
 case atStart=>exact ⟨0,Kb _,rfl,tb _ _,fun k _ hk=>zO⟩
 case round =>
  obtain ⟨j,hj,rfl,yb,Gx⟩:=hrel;have Gt:=ia Fh yb;have t0:wr.cell? ⟨w.1.size,0,vD⟩=vE (vd vn p):=Gt.cell 0;have t3:wr.cell? ⟨w.1.size,3,vD⟩=vE (ve A rows.length c):=Gt.cell 3;have l0:=Gt.lt;by_cases ta:j<rows.length
  ·obtain ⟨b,q,rfl⟩:=Ra.base zO zO
   obtain ⟨cs,-,hc,x,y,z,rfl,hx,hy,hz⟩:=(Ra.below Og (ma Ib yb)).get ta;have c0:wr.cell? ⟨b,q+j*3,vD⟩=vE x:=hc 0 zO;have c1:wr.cell? ⟨b,q+j*3+1,vD⟩=vE y:=hc 1 zO;have c2:wr.cell? ⟨b,q+j*3+2,vD⟩=vE z:=hc 2 zO;have l1:b<wr.1.size:=Gf _ _ c0;have g1:(0:Int)<=j:=by omega
   have g2:(j:Int)<rows.length:=by omega
   clear hc;go_wp2_with fail
   refine zd (Wb) [8] [0,1,2,3,4,5,6,7,8,9] zK zK ?_;refine Gv (oa) ?_;intro Wc ea;refine Pb ?_;refine Ic oa rfl rfl rfl ((zH0 p x y z B m d rows[j] ws _ (Mh _ _ _ _ ea hx) (Mh _ _ _ _ ea hy) (Mh _ _ _ _ ea hz) (Ab (ma (ma Ib yb.drew) ea) hw) HO.out).mono ?_);rintro e w3 ⟨rfl,Ta⟩;refine ⟨_,rfl,Ta,?_⟩;replace ea:=zM oa ea (Ta);refine zPU ?_;refine Pb ?_;refine Hc ?_;have Xb:=zH ta;cases Hh:qz p rows[j] ws
   ·have HBO:=zH Hh
    clear Hh;go_wp2;go_ret
    exact ⟨⟨_,rfl,(db zO).trans (zAU Xb.out HBO.out).symm⟩,ma (ma Ib yb.drew) ea⟩
   ·have HBO:=zH Hh
    clear Hh;go_wp2
    go_roundw
    case rel =>
     refine ⟨j+1,zO,by go_num,ma yb.drew ea,fun k hk hkj=>?_⟩
     by_cases e:k<j
     ·exact Gx.out k hk e
     ·obtain rfl:k=j:=by omega
      exact HBO.out
    case measure=>simp [intOf];omega
  ·have HS:=zH (zAT fun k hk=>Gx.out k hk zO)
   go_wp2;go_ret
   exact ⟨⟨_,rfl,(xb zO).trans HS.out.symm⟩,ma Ib yb⟩
theorem zH6 (p:Nat) (pub vars:Int) (A B:Option vy) (n c m d:Nat) (rows:List Ua) (ws:List Nat) (w:vw) (hr:RSl 3 je w [ve A n c] rows) (hw:RWd w [ve B m d] ws)
  (ht:Yc p pub vars rows=true) (ha:yi p vars ws=true) :
  vB prog 51 #[Zb p pub vars (ve A n c),ve B m d] w fun e w'=>e=vl (.bool (tx p rows ws)) /\ vA w.1.size w w':=by
 have Xa:=ZG ht;have hp:=(Rb Xa).2;have HV:=zH (fun w' (hb:vA w.1.size w w')=>VN p pub vars A n c rows w' (Pg Og _ _ _ _ hb hr) hp)
 have HA:=zH (fun w' (hb:vA w.1.size w w')=>MW p pub vars (ve A n c) B m d ws w' (Ab hb hw) hp)
 have HF:=zH (fun w' (hb:vA w.1.size w w')=>zHZ p pub vars A B n c m d rows ws w' (Pg Og _ _ _ _ hb hr) (Ab hb hw) ht ha)
 rw [ht] at HV;rw [ha] at HA;clear ht ha hp Xa;obtain ⟨A',n',c',he,-⟩:=hr;simp at he
 obtain ⟨rfl,rfl,rfl⟩:=he;unfold Zb;have da:vA w.1.size w (w.alloc (.cells #[vd vn p,vd vq pub,vd vq vars,ve A n c] 25)):=(tb _ w).alloc zR _;have hB:=Blk.new w 25 #[vd vn p,vd vq pub,vd vq vars,ve A n c];go_enter func51,ntmps51
 go_wp2_with (first | (go_at_call 112;refine (HF.out _ (ma (ma da hb) Ba)).mono ?_;rintro e w3 ⟨⟨x,rfl,hx⟩,Ta⟩) | (go_at_call 111;refine (HA.out _ (ma da hb)).mono ?_;rintro e w2 ⟨rfl,Ba⟩;clear t0 t1 t2 t3;have Fh:=ia Jd Ba;have t0:w2.cell? ⟨w.1.size,0,vD⟩=vE (vd vn p):=Fh.cell 0;have t1:w2.cell? ⟨w.1.size,1,vD⟩=vE (vd vq pub):=Fh.cell 1;have t2:w2.cell? ⟨w.1.size,2,vD⟩=vE (vd vq vars):=Fh.cell 2;have t3:w2.cell? ⟨w.1.size,3,vD⟩=vE (ve A n c):=Fh.cell 3) | (go_at_call 110;refine (HV.out _ da).mono ?_;rintro e w1 ⟨rfl,hb⟩;have Jd:=hB.below hb zS;have t0:w1.cell? ⟨w.1.size,0,vD⟩=vE (vd vn p):=Jd.cell 0;have t1:w1.cell? ⟨w.1.size,1,vD⟩=vE (vd vq pub):=Jd.cell 1;have t2:w1.cell? ⟨w.1.size,2,vD⟩=vE (vd vq vars):=Jd.cell 2;have t3:w1.cell? ⟨w.1.size,3,vD⟩=vE (ve A n c):=Jd.cell 3))
 go_ret
 exact ⟨by rw [<- hx];rfl,ma (ma (ma da hb) Ba) Ta⟩
theorem Ob {w:vw} {A:Option vy} {n c:Nat} {l:List Nat} (h:RWd w [ve A n c] l):n=l.length /\ n <= c /\ c <= maxLen /\ (∀ x∈l,x<18446744073709551616) /\ Rd w 1 A n (Oa l):=by
 obtain ⟨A',n',c',he,h1,h2,h3,h4⟩:=h;simp at he
 obtain ⟨rfl,rfl,rfl⟩:=he;have:=h3.len1;rw [Vt] at this;exact ⟨this.symm,h1,h2,h4,h3⟩
theorem Rg {w:vw} {A:Option vy} {l:List Nat} (h:Rd w 1 A l.length (Oa l)) {j:Nat} (hj:j<l.length):∃ b q,A=vE ⟨b,q,vD⟩ /\ b<w.1.size /\ w.cell? ⟨b,q+j,vD⟩=vE (vd vn ((l.getD j 0:Nat):Int)):=by
 obtain ⟨b,q,e,hb,hc⟩:=pz h zO;refine ⟨b,q,e,hb,?_⟩;rw [hc j hj,ZB hj,Fb,Qb hj]
 rfl
theorem Mm {n c:Nat} (h1:n <= c) (h2:c <= maxLen):(n:Int) <= 9223372036854775807:=by
 simp [maxLen] at h2
 omega
theorem nL {l:List Nat} {B:Nat} (h:∀ x∈l,x<B) {k:Nat} (hk:k<l.length):l.getD k 0<B:=by
 rw [Fb,Qb hk];exact h _ (He _)
theorem wN (l:List Nat) (k:Nat) (h:k<l.length):l.take (k+1)=l.take k++[l.getD k 0]:=by
 rw [Lv h,Fb,Qb h]
 rfl
theorem Hq {w:vw} {base:Nat} {e:vz} {A:Option vy} {c n:Nat} {l:List Nat} (h:w.ownsRow base e 1 (ve A n c) n (Oa l)) (hl:∀ x∈l,x<18446744073709551616):RWd w [ve A n c] l:=by
 obtain ⟨A',c',he,h1,h2,h3,-⟩:=Ud h;simp at he
 obtain ⟨rfl,rfl⟩:=he;exact ⟨A,n,c,rfl,h1,h2,h3,hl⟩
theorem Sp {W W':vw} {B:Nat} {e:vz} {size:Nat} {v:vx} {n:Nat} {xs:List vx} (h:W.ownsRow B e size v n xs) (hg:W.grownBy W' v.ownBlock) (hB:B <= W.1.size):vA B W W' :=
 zt hg B hB fun g e=>(h.lt g e).1
theorem BG {w:vw} {B m:Nat} {t:vz} {v:vx} {a b c:List Nat} (h:w.ownsRow B t 1 v m (Oa a++Oa b)) (e:a++b=c):w.ownsRow B t 1 v m (Oa c):=by
 rw [<- e,zY];exact h
theorem GJ {w:vw} {g:Nat} {t:vz} {l:List Nat} (h:Blk w g t (Oa l).toArray) (hl:∀ x∈l,x<18446744073709551616) (hm:l.length <= maxLen):RWd w [ve (vE ⟨g,0,vD⟩) l.length l.length] l:=by
 refine ⟨_,_,_,rfl,zR,hm,⟨by rw [Vt,fp],fun _=>⟨_,rfl,fun j u hu=>?_⟩⟩,hl⟩
 rw [zm,Nj,h.cell]
 simpa using hu
theorem St.lit (s:St):(Oa [s.a,s.b,s.c]).toArray=s.cs:=rfl
def WB (p:Nat):List Nat -> St -> St
 | [],s=>s
 | [x],s=>PD p ⟨(s.a+x)%p,s.b,s.c⟩
 | x :: y :: r,s=>WB p r (PD p ⟨(s.a+x)%p,(s.b+y)%p,s.c⟩)
def Pv (p label:Nat) (l:List Nat):St:=WB p l ⟨0,0,(label*65536%p+l.length)%p⟩
theorem zDS {l:List Nat} {i:Nat} (h:i+1<l.length):l.drop i=l.getD i 0 :: l.getD (i+1) 0 :: l.drop (i+2):=by
 rw [List.drop_eq_getElem_cons zO,List.drop_eq_getElem_cons h,Fb,Fb,Qb h,Qb (show i<l.length by omega)]
 rfl
theorem zDQ {l:List Nat} {i:Nat} (h:i+1=l.length):l.drop i=[l.getD i 0]:=by
 rw [List.drop_eq_getElem_cons zO,Fb,Qb (show i<l.length by omega),List.drop_of_length_le zO]
 rfl
theorem D9 (p label:Nat) (A:Option vy) (n c:Nat) (l:List Nat) (w:vw) (hp:Jb p=true) (hl:RWd w [ve A n c] l) (Sa:0<l.length) (hlen:l.length <= 1000000) :
  vB prog 271 #[vd vn p,vd vn label,ve A n c] w fun e w'=>e=vl (Pv p label l).val /\ vA w.1.size w w':=by
 obtain ⟨rfl,h1,h2,ta,Ra⟩:=Ob hl;have gm:=Mm h1 h2;have HMu:=zH (fun w=>Kr p label 65536 w hp)
 have HA0:=zH (fun w=>mn p (label*65536%p) l.length w hp)
 have HA:=zH (fun a b w=>mn p a b w hp)
 have HP:=zH (fun s w=>S9 p s w hp)
 have HF:=zH (show Pv p label l=WB p (l.drop 0) ⟨0,0,(label*65536%p+l.length)%p⟩ from rfl)
 have ew:vn.wrap (l.length:Int)=l.length:=Fl _ zO;generalize Pv p label l=fin at *;generalize (label*65536%p+l.length)%p=c0 at *;generalize label*65536%p=m0 at *;unfold fv at *;clear hl h1 h2 hp;have d0:((l.length:Int) == 0)=false:=by rw [Gd];omega
 obtain ⟨kr,kf,da,jb⟩:=Yg w 298 224 #[vd vn 0,vd vn 0,vd vn 0] #[vd vn p];go_enter func271,ntmps271
 go_wp2_with fail
 generalize (w.alloc _).alloc _=w0 at kr kf da jb |-;have cf:=kf.cell;have lf:=kf.lt;refine kh (Wb) (oa) [9,10] [10] [0,1,2,3,4,5,6,7,8,9,10] zK zK ?_;refine lh (oa) ?_;intro Wc ea;refine Xe ?_;refine Nd oa rfl rfl rfl rfl (fun w' hR=>HMu.out _) ?_
 refine zPU ?_;refine Xe ?_;refine Nd oa rfl rfl rfl rfl (fun w' hR=>HA0.out _) ?_
 refine zPU ?_;refine Xe ?_;refine Oo rfl rfl rfl rfl ?_;intro wh Qd;replace ea:=zM oa ea Qd;go_simp;refine ⟨fun _=>(tb _ _).alloc zR _,?_⟩
 replace kr:=kr.drew.below ea kr.lt;replace kf:=kf.drew.below ea kf.lt;replace da:=ma da.drew ea;have hsw:w.1.size+1<wh.1.size:=kf.lt;obtain ⟨ks,ja⟩:=zN wh 298 #[vd vn 0,vd vn 0,vd vn 0];replace kr:=ia kr ja;replace kf:=ia kf ja;replace da:=ma da ja;clear ea ja cf lf jb Qd
 refine zPU ?_
 generalize wh.alloc _=w2 at kr kf da ks |-;generalize wh.1.size=g at ks hsw |-;have ea:=oa.refl w2;refine Oo rfl rfl rfl rfl ?_;intro wh Qd;replace ea:=zM oa ea Qd;replace kr:=ia kr ea;replace kf:=ia kf ea;replace ks:=ia ks ea;replace da:=ma da ea;have c2:=ks.cell;have f2:=ks.frozen;go_simp;refine ⟨fun h=>Bool.noConfusion h,?_⟩
 have hg:=PG (w:=wh) (g:=g) (vd vn 0) (vd vn 0) (vd vn c0);have kz:=OG ks (vd vn 0) (vd vn 0) (vd vn c0);replace kr:=kr.grown hg (fun e=>by have:=Ya e;omega)
 replace kf:=kf.grown hg (fun e=>by have:=Ya e;omega)
 replace da:=Ef da hg;clear c2 f2 ks hg ea Qd;generalize ((vF wh _ _).setCell _ _).setCell _ _=w4 at kz kr kf da |-;have ks:Blk w4 g 298 (St.mk 0 0 c0).cs:=kz;clear kz;refine Up rfl ?_;go_wp2_with fail
 go_loopw [9] (fun y wr=>∃ (i:Nat) (q:St),i <= l.length+1 /\ y=vd vq i /\ Blk wr w.1.size 298 #[vd vn 0,vd vn 0,vd vn 0] /\ Blk wr (w.1.size+1) 224 #[vd vn p] /\ Blk wr g 298 q.cs /\ vA w.1.size w wr /\ Hid (WB p (l.drop i) q=fin)) (fun y _=>l.length-(intOf y).toNat)
 case atStart=>exact ⟨0,⟨0,0,c0⟩,zO,rfl,kr,kf,ks,da,HF.out.symm⟩
 case round =>
  clear kr kf ks da;obtain ⟨i,q,hi,rfl,kr,kf,ks,da,HI⟩:=hrel;obtain ⟨qa,qb,qc⟩:=q;have Tt:Blk wr g 298 #[vd vn qa,vd vn qb,vd vn qc]:=ks;replace ks:=Tt;clear Tt;by_cases Cw:i<l.length
  ·have hx:=nL ta Cw
   obtain ⟨bb,bq,eA,Gb,cl⟩:=Rg (Ra.below da) Cw;have Xb:=zH ta;have OE:=zH Ra;have Mx:=zH Cw;have g1:(0:Int)<=i:=by omega
   have g2:(i:Int)<l.length:=by omega
   by_cases Si:i+1<l.length
   ·obtain ⟨bb2,bq2,eA2,nw,cl2⟩:=Rg (Ra.below da) Si
    have HD:=zH (zDS Si);obtain ⟨i1,hi1e⟩:=zEX (i+1);have e1:(i:Int)+1=(i1:Int):=by omega
    have e2:vq.wrap ((i:Int)+1)=(i1:Int):=by rw [Bu];omega
    have e3:vq.wrap (i1:Int)=i1:=by rw [Bu];omega
    have g4:(0:Int)<=i1:=by omega
    have g3:(i1:Int)<l.length:=by omega
    have Xq:=zH (show i1<l.length by omega)
    have HI1E:=zH hi1e;rw [eA] at eA2;have eA3:=Ya eA2
    injection eA3 with e5 e6
    subst e5 e6;subst eA;clear eA2 nw;have HIF:=zH (show WB p (l.getD i 0 :: l.getD (i+1) 0 :: l.drop (i+2)) ⟨qa,qb,qc⟩=fin by rw [<- HD.out];exact HI.out)
    clear HD ta Ra Si hx hi1e;obtain ⟨y,hy⟩:=zEX (l.getD (i+1) 0);generalize l.getD i 0=x at *;rw [<- hy] at HIF cl2;have HY:=zH hy.symm;clear hy;have Pk:=zH (fun w=>HA.out qa x w)
    have HA2:=zH (fun w=>HA.out qb y w)
    obtain ⟨na,CA⟩:=zEX ((qa+x)%p);obtain ⟨nb,Gw⟩:=zEX ((qb+y)%p);rw [<- CA] at Pk;rw [<- Gw] at HA2;obtain ⟨z,hz⟩:=zEX (PD p ⟨na,nb,qc⟩);have HX:=zH (show ∀ w,vB prog 300 #[vd vn p,vf #[vd vn na,vd vn nb,vd vn qc]] w fun e w'=>e=vl (vf #[vd vn z.a,vd vn z.b,vd vn z.c]) /\ vA w.1.size w w' from fun w=>by rw [hz];exact HP.out ⟨na,nb,qc⟩ w)
    have HZ:=zH (show WB p (l.drop (i+2)) z=fin by rw [hz];rw [CA,Gw];exact HIF.out)
    clear hz;clear HIF CA Gw;have cs:=ks.cell;have ls:=ks.lt;have cf:=kf.cell;have lf:=kf.lt;have cl2H:=zH cl2;clear cl2;go_wp2_with fail
    refine kh (Wb) (oa) [9] [9] [0,1,2,3,4,5,6,7,8,9] zK zK ?_;refine lh (oa) ?_;intro Wc ea;refine Xe ?_;refine Nd oa rfl rfl rfl rfl (fun w' hR=>Pk.out _) ?_
    refine zPU ?_;refine Xe ?_;refine Oo rfl rfl rfl rfl ?_;intro wh Qd;replace ea:=zM oa ea Qd;replace kr:=kr.drew.below ea kr.lt;replace ks:=ks.drew.below ea ks.lt;replace kf:=kf.drew.below ea kf.lt;replace da:=ma da.drew ea;clear cs cf lf ls ea Qd cl;have c2:=ks.cell;have f2:=ks.frozen;go_simp;refine ⟨fun h=>Bool.noConfusion h,?_⟩
    have hg:wh.grownBy (wh.setCell ⟨g,0,vD⟩ (vd vn na)) (vE g):=mh (p:=⟨g,0,vD⟩) (Ce wh _) (.inl rfl) _;replace ks:=ks.set_ 0 (vd vn na);simp at ks
    replace kr:=kr.grown hg (fun e=>by have:=Ya e;omega)
    replace kf:=kf.grown hg (fun e=>by have:=Ya e;omega)
    replace da:=Ef da hg;clear hg c2 f2;generalize wh.setCell _ _=Wf0 at ks kr da kf |-;refine Up rfl ?_;have cl2:Wf0.cell? ⟨bb,bq+i1,vD⟩=vE (vd vn y):=by obtain ⟨b3,q3,e3,-,h3⟩:=Rg (OE.out.below da) Xq.out;have e4:=Ya e3;injection e4 with e5 e6;subst e5 e6;rw [h3,HI1E.out,HY.out]
    have nw:bb<Wf0.1.size:=Gf _ _ cl2;have cs:=ks.cell;have ls:=ks.lt;have cf:=kf.cell;have lf:=kf.lt;go_wp2_with fail
    refine kh (Wb) (oa) [10] [10] [0,1,2,3,4,5,6,7,8,9,10] zK zK ?_;refine lh (oa) ?_;intro Wc ea;refine Xe ?_;refine Nd oa rfl rfl rfl rfl (fun w' hR=>HA2.out _) ?_
    refine zPU ?_;refine Xe ?_;refine Oo rfl rfl rfl rfl ?_;intro wh Qd;replace ea:=zM oa ea Qd;replace kr:=kr.drew.below ea kr.lt;replace ks:=ks.drew.below ea ks.lt;replace kf:=kf.drew.below ea kf.lt;replace da:=ma da.drew ea;clear cs cf lf ls ea Qd cl2;have c2:=ks.cell;have f2:=ks.frozen;go_simp;refine ⟨fun h=>Bool.noConfusion h,?_⟩
    have hg:wh.grownBy (wh.setCell ⟨g,1,vD⟩ (vd vn nb)) (vE g):=mh (p:=⟨g,1,vD⟩) (Ce wh _) (.inl rfl) _;replace ks:=ks.set_ 1 (vd vn nb);simp at ks
    replace kr:=kr.grown hg (fun e=>by have:=Ya e;omega)
    replace kf:=kf.grown hg (fun e=>by have:=Ya e;omega)
    replace da:=Ef da hg;clear hg c2 f2;generalize wh.setCell _ _=Wf1 at ks kr da kf |-;refine Up rfl ?_;have cs:=ks.cell;go_wp2_with fail
    refine (HX.out _).mono ?_;rintro e w5 ⟨rfl,Za⟩;replace kr:=ia kr Za;replace ks:=ia ks Za;replace kf:=ia kf Za;replace da:=ma da Za;clear cs Za;have cs:=ks.cell;have fs:=ks.frozen;go_wp2_with fail
    have hg:=PG (w:=w5) (g:=g) (vd vn z.a) (vd vn z.b) (vd vn z.c);have kz:=OG ks (vd vn z.a) (vd vn z.b) (vd vn z.c);replace kr:=kr.grown hg (fun e=>by have:=Ya e;omega)
    replace kf:=kf.grown hg (fun e=>by have:=Ya e;omega)
    replace da:=Ef da hg;clear hg cs fs ks;generalize ((vF w5 _ _).setCell _ _).setCell _ _=Wz at kz kr da kf |-
    go_roundw
    case rel=>exact ⟨i+2,z,zO,by go_num,kr,kf,kz,da,HZ.out⟩
    case measure=>simp [intOf];omega
   ·have RC:i+1=l.length:=by omega
    have HD:=zH (zDQ RC);have g3:¬((i:Int)+1<(l.length:Int)):=by omega
    subst eA;have HIF:=zH (show WB p [l.getD i 0] ⟨qa,qb,qc⟩=fin by rw [<- HD.out];exact HI.out)
    have HDN:=zH (show l.drop (i+2)=[] from List.drop_of_length_le zO)
    clear HD ta Ra hx;generalize l.getD i 0=x at *;have Pk:=zH (fun w=>HA.out qa x w)
    obtain ⟨na,CA⟩:=zEX ((qa+x)%p);rw [<- CA] at Pk;obtain ⟨z,hz⟩:=zEX (PD p ⟨na,qb,qc⟩);have HX:=zH (show ∀ w,vB prog 300 #[vd vn p,vf #[vd vn na,vd vn qb,vd vn qc]] w fun e w'=>e=vl (vf #[vd vn z.a,vd vn z.b,vd vn z.c]) /\ vA w.1.size w w' from fun w=>by rw [hz];exact HP.out ⟨na,qb,qc⟩ w)
    have HZ:=zH (show WB p (l.drop (i+2)) z=fin by rw [hz];rw [HDN.out,CA];exact HIF.out)
    clear hz;clear HIF HDN Si RC CA;have cs:=ks.cell;have ls:=ks.lt;have cf:=kf.cell;have lf:=kf.lt;go_wp2_with fail
    refine kh (Wb) (oa) [9] [9] [0,1,2,3,4,5,6,7,8,9] zK zK ?_;refine lh (oa) ?_;intro Wc ea;refine Xe ?_;refine Nd oa rfl rfl rfl rfl (fun w' hR=>Pk.out _) ?_
    refine zPU ?_;refine Xe ?_;refine Oo rfl rfl rfl rfl ?_;intro wh Qd;replace ea:=zM oa ea Qd;replace kr:=kr.drew.below ea kr.lt;replace ks:=ks.drew.below ea ks.lt;replace kf:=kf.drew.below ea kf.lt;replace da:=ma da.drew ea;clear cs cf lf ls ea Qd cl;have c2:=ks.cell;have f2:=ks.frozen;go_simp;refine ⟨fun h=>Bool.noConfusion h,?_⟩
    have hg:wh.grownBy (wh.setCell ⟨g,0,vD⟩ (vd vn na)) (vE g):=mh (p:=⟨g,0,vD⟩) (Ce wh _) (.inl rfl) _;replace ks:=ks.set_ 0 (vd vn na);simp at ks
    replace kr:=kr.grown hg (fun e=>by have:=Ya e;omega)
    replace kf:=kf.grown hg (fun e=>by have:=Ya e;omega)
    replace da:=Ef da hg;clear hg c2 f2;generalize wh.setCell _ _=Wf0 at ks kr da kf |-;refine Up rfl ?_;have cs:=ks.cell;go_wp2_with fail
    refine (HX.out _).mono ?_;rintro e w5 ⟨rfl,Za⟩;replace kr:=ia kr Za;replace ks:=ia ks Za;replace kf:=ia kf Za;replace da:=ma da Za;clear cs Za;have cs:=ks.cell;have fs:=ks.frozen;go_wp2_with fail
    have hg:=PG (w:=w5) (g:=g) (vd vn z.a) (vd vn z.b) (vd vn z.c);have kz:=OG ks (vd vn z.a) (vd vn z.b) (vd vn z.c);replace kr:=kr.grown hg (fun e=>by have:=Ya e;omega)
    replace kf:=kf.grown hg (fun e=>by have:=Ya e;omega)
    replace da:=Ef da hg;clear hg cs fs ks;generalize ((vF w5 _ _).setCell _ _).setCell _ _=Wz at kz kr da kf |-
    go_roundw
    case rel=>exact ⟨i+2,z,zO,by go_num,kr,kf,kz,da,HZ.out⟩
    case measure=>simp [intOf];omega
  ·have HQ:=zH (show (⟨qa,qb,qc⟩:St)=fin by have:=HI.out;rw [List.drop_of_length_le zO] at this;exact this)
   have g2:¬((i:Int)<l.length):=by omega
   have cs:=ks.cell;have cr:=kr.cell;have fr:=kr.frozen;clear Ra ta;go_wp2_with fail
   have hg:=PG (w:=wr) (g:=w.1.size) (vd vn qa) (vd vn qb) (vd vn qc);have kz:=OG kr (vd vn qa) (vd vn qb) (vd vn qc);clear cs cr fr kr ks;generalize ((vF wr _ _).setCell _ _).setCell _ _=Wz at hg kz |-;have cz:=kz.cell;exact Sc (v:=vf #[vd vn qa,vd vn qb,vd vn qc]) (by simp [results,results271,go_sem,cz]) rfl ⟨by rw [<- HQ.out];rfl,da.trans (Er hg da.size zR)⟩
def Qa (n:Nat) (f:Nat -> Nat):Array vx:=((List.range n).map fun k=>vd vn (f k:Int)).toArray
def Cf (f:Nat -> Nat) (k v:Nat):Nat -> Nat:=fun i=>if i=k then v else f i
theorem Uf {n k:Nat} (f:Nat -> Nat) (h:k<n):(Qa n f)[k]?=vE (vd vn (f k:Int)):=by simp [Qa,h]
theorem Ol {n:Nat} {f g:Nat -> Nat} (h:∀ i,i<n -> f i=g i):Qa n f=Qa n g:=by
 unfold Qa
 congr 1
 exact Qz fun i hi=>by rw [h i (pj.1 hi)]
theorem Lr {n:Nat} (f:Nat -> Nat) (k v:Nat):(Qa n f).setIfInBounds k (vd vn v)=Qa n (Cf f k v):=by
 apply Array.ext
 ·simp [Qa]
 ·intro i h1 h2
  simp [Qa] at h1 h2
  rw [Array.getElem_setIfInBounds (by simpa [Qa] using h1)]
  simp only [Qa,Cf];split
  ·subst_vars;simp
  ·rename_i Sa
   simp [show ¬i=k from fun e=>Sa e.symm]
theorem Yv (n:Nat) (f:Nat -> Nat):Qa n f=(Oa ((List.range n).map f)).toArray:=by simp [Qa,Oa]
theorem tC {w:vw} {g n:Nat} {t:vz} {f:Nat -> Nat} (h:Blk w g t (Qa n f)) (hf:∀ i,i<n -> f i<18446744073709551616) (hn:n <= maxLen):RWd w [ve (vE ⟨g,0,vD⟩) n n] ((List.range n).map f):=by
 rw [Yv] at h;have:=GJ h (fun x hx=>by
  obtain ⟨i,hi,rfl⟩:=Od.1 hx;exact hf i (pj.1 hi)) (by simpa using hn)
 simpa using this
theorem PQ {P:Program} {t e:vz} {size bytes:Nat} {z:vx} (E:Tq P t e size bytes z) (n:Nat) (hb:bytes*n <= 281474976710656) (hn:(n:Int) <= 9223372036854775807) (w:vw) :
  (Instr.makeSlice t (vd vq n) (vd vq n)).run P w= .ok (ve (vE ⟨w.1.size,0,vD⟩) n n) (w.alloc (.cells (madeCells z.cells (n*size)) e)):=by
 obtain ⟨ht,⟨i,hi,hz,hs,Em⟩,uJ,jb⟩:=E;have:=run_make (P:=P) w t e i z ht hi hz vq vq (n:Int) (n:Int) zO (Int.le_refl _) (by rw [Em,<- Qf];exact Int.ofNat_le.2 hb) hn
 rw [Rk,hs] at this;exact this
theorem zFI (n:Nat):madeCells (vd vn 0).cells (n*1)=Qa n fun _=>0:=by
 apply Array.toList_inj.1
 rw [show (vd vn 0).cells=#[vd vn 0] from rfl,toList_madeCells_one]
 exact Kv (by simp [Qa]) fun i h1 h2=>by simp [Qa]
theorem info_w:(prog.info? 22).map (fun i=>(i.zero,i.size,i.bytes))=vE (vE (vd vn 0),1,8):=by kernel_rfl
theorem Et:Tq prog 28 22 1 8 (vd vn 0):=by
 obtain ⟨i0,hi,Yh,ud,Ve⟩:=info_parts info_w;exact ⟨underlying28,⟨i0,hi,Yh,ud,Ve⟩,rfl,zO⟩
theorem Xw (n:Nat) (hn:n <= 1000000) (w:vw) :
  (Instr.makeSlice 28 (vd vq n) (vd vq n)).run prog w= .ok (ve (vE ⟨w.1.size,0,vD⟩) n n) (w.alloc (.cells (Qa n fun _=>0) 22)):=by
 have:=PQ (P:=prog) Et n zO zO w;rw [zFI] at this;exact this
def OD (p:Nat) (s:St):Nat -> St
 | 0=>s
 | m+1=>PD p (OD p s m)
def Pn (p:Nat) (s:St) (k:Nat):Nat:=(OD p s (k / 2)).at_ (k%2)
theorem IL (f:Nat -> Nat) (n k:Nat):Qa n (Cf (fun i=>if i<k then f i else 0) k (f k))=Qa n fun i=>if i<k+1 then f i else 0:=by
 refine Ol fun i _=>?_
 simp only [Cf];by_cases h:i=k
 ·subst h;rw [Ka rfl,Ka zO]
 ·rw [ya h]
  by_cases h2:i<k
  ·rw [Ka h2,Ka zO]
  ·rw [ya h2,ya zO]
theorem zG7 (p label:Nat) (A:Option vy) (n c m:Nat) (l:List Nat) (w:vw) (hp:Jb p=true) (hl:RWd w [ve A n c] l) (Sa:0<l.length) (hlen:l.length <= 1000000) (hm:m <= 65536) :
  vB prog 269 #[vd vn p,vd vn label,ve A n c,vd vq m] w fun e w'=>∃ g,e=vl (ve (vE ⟨g,0,vD⟩) m m) /\ w.1.size <= g /\ Blk w' g 22 (Qa m (Pn p (Pv p label l))) /\ vA w.1.size w w':=by
 have HV:=zH (fun w=>zp p w hp)
 have zE:=zH (fun w' (hb:vA w.1.size w w')=>D9 p label A n c l w' hp (Ab hb hl) Sa hlen)
 have HP:=zH (fun s w=>S9 p s w hp)
 have Jh:=fun w=>Xw m zO w
 have g0:¬((m:Int)<0):=by omega
 have g1:(m:Int) <= 65536:=by omega
 clear hl Sa hlen hp;generalize Pv p label l=s at *;unfold fv at *;go_enter func269,ntmps269
 go_wp2_with fail
 refine (HV.out _).mono ?_;rintro e w1 ⟨rfl,Ia⟩;go_wp2_with fail
 refine (zE.out _ Ia).mono ?_;rintro e w2 ⟨rfl,Ba⟩;have da:=ma Ia Ba;have ev:s.val=vf #[vd vn s.a,vd vn s.b,vd vn s.c]:=rfl;rw [ev];obtain ⟨ks0,kg,Zk,jb⟩:=Yg w2 298 22 #[vd vn s.a,vd vn s.b,vd vn s.c] (Qa m fun _=>0)
 have Dd:=da.size;replace da:=ma da Zk;clear ev Ia Ba Zk;generalize hz:Qa m (fun _=>0)=zc at *
 go_upto_region 5 with fail
 generalize (w2.alloc _).alloc _=w3 at ks0 kg da jb |-;generalize w2.1.size=gs at *;clear jb;have ks:Blk w3 gs 298 (OD p s ((0-1) / 2)).cs:=ks0;rw [<- hz,show Qa m (fun _=>0)=Qa m (fun k=>if k<0 then Pn p s k else 0) from Ol fun i _=>by rw [ya zO]] at kg
 clear hz ks0;go_wp2_with fail
 go_loopw [32] (fun y wr=>∃ i:Nat,i <= m /\ y=vd vq i /\ Blk wr gs 298 (OD p s ((i-1) / 2)).cs /\ Blk wr (gs+1) 22 (Qa m fun k=>if k<i then Pn p s k else 0) /\ vA w.1.size w wr) (fun y _=>m-(intOf y).toNat)
 case atStart=>exact ⟨0,Kb _,rfl,ks,kg,da⟩
 case round =>
  clear ks kg da;obtain ⟨i,hi,rfl,ks,kg,da⟩:=hrel;by_cases ta:i<m
  ·have g2:(i:Int)<m:=by omega
   have g3:(0:Int)<=i:=by omega
   obtain ⟨sv,hsv⟩:=zEX (Pn p s i);obtain ⟨j,hj⟩:=zEX (i%2);have tn:j<3:=by omega
   have ej:(i:Int)%2=(j:Int):=by omega
   have ej2:(i:Int).tmod 2=(j:Int):=by rw [Int.tmod_eq_emod_of_nonneg zO];exact ej
   have HSQ:=zH (show (OD p s (i / 2)).at_ j=sv by rw [hj,hsv];rfl)
   have HSV:=zH hsv.symm;clear hsv;rcases (show i=0 \/ i%2=1 \/ (0<i /\ i%2=0) by omega) with h0 | h1 | ⟨h2,h3⟩
   ·have d1:¬((0:Int)<i):=by omega
    have d2:decide ((0:Int)<i)=false:=db d1;rw [show (i-1) / 2=i / 2 by omega] at ks
    have H0:=zH h0;clear h0 hj;have cj:=ks.cell j;rw [St.cs_at _ tn] at cj;have ci:=kg.cell i;rw [Uf _ ta] at ci;rw [HSQ.out] at cj;have fi:=kg.frozen i;generalize (if i<i then Pn p s i else 0)=old at ci
    go_wp2_with fail
    have hg:wr.grownBy (wr.setCell ⟨gs+1,i,vD⟩ (vd vn sv)) (vE (gs+1)):=mh (p:=⟨gs+1,i,vD⟩) (Ce wr _) (.inl rfl) _;replace kg:=kg.set_ i (vd vn sv);have HN:(Qa m fun k=>if k<i then Pn p s k else 0).setIfInBounds i (vd vn sv)=Qa m (fun k=>if k<i+1 then Pn p s k else 0):=by rw [Lr,<- HSV.out,IL]
    rw [HN] at kg;replace ks:=ks.grown hg (fun e=>by have:=Ya e;omega)
    replace da:=Ef da hg;clear hg fi ci cj
    go_roundw
    case rel=>exact ⟨i+1,zO,by go_num,by rw [show (i+1-1) / 2=i / 2 by omega];exact ks,kg,da⟩
    case measure=>simp [intOf];omega
   ·have d1:(0:Int)<i:=by omega
    have d3:((j:Int) == 0)=false:=by rw [Gd];omega
    rw [show (i-1) / 2=i / 2 by omega] at ks
    clear h1 hj;have cj:=ks.cell j;rw [St.cs_at _ tn] at cj;have ci:=kg.cell i;rw [Uf _ ta] at ci;rw [HSQ.out] at cj;have fi:=kg.frozen i;generalize (if i<i then Pn p s i else 0)=old at ci
    go_wp2_with fail
    have hg:wr.grownBy (wr.setCell ⟨gs+1,i,vD⟩ (vd vn sv)) (vE (gs+1)):=mh (p:=⟨gs+1,i,vD⟩) (Ce wr _) (.inl rfl) _;replace kg:=kg.set_ i (vd vn sv);have HN:(Qa m fun k=>if k<i then Pn p s k else 0).setIfInBounds i (vd vn sv)=Qa m (fun k=>if k<i+1 then Pn p s k else 0):=by rw [Lr,<- HSV.out,IL]
    rw [HN] at kg;replace ks:=ks.grown hg (fun e=>by have:=Ya e;omega)
    replace da:=Ef da hg;clear hg fi ci cj
    go_roundw
    case rel=>exact ⟨i+1,zO,by go_num,by rw [show (i+1-1) / 2=i / 2 by omega];exact ks,kg,da⟩
    case measure=>simp [intOf];omega
   ·have d1:(0:Int)<i:=by omega
    have d3:((j:Int) == 0)=true:=by rw [Dh];omega
    obtain ⟨q,hq⟩:=zEX (OD p s ((i-1) / 2));rw [<- hq] at ks;obtain ⟨z,hz⟩:=zEX (PD p q);have HZ:=zH (show OD p s (i / 2)=z by rw [show i / 2=(i-1) / 2+1 by omega,OD,<- hq,hz])
    have HX:=zH (show ∀ w,vB prog 300 #[vd vn p,vf #[vd vn q.a,vd vn q.b,vd vn q.c]] w fun e w'=>e=vl (vf #[vd vn z.a,vd vn z.b,vd vn z.c]) /\ vA w.1.size w w' from fun w=>by rw [hz];exact HP.out q w)
    have Tt:Blk wr gs 298 #[vd vn q.a,vd vn q.b,vd vn q.c]:=ks;clear h2 h3 hj hq hz ks;have cs:=Tt.cell;go_wp2_with fail
    refine (HX.out _).mono ?_;rintro e w5 ⟨rfl,Za⟩;replace Tt:=ia Tt Za;replace kg:=ia kg Za;replace da:=ma da Za;clear cs Za;have cs:=Tt.cell;have fs:=Tt.frozen;go_upto_region 10 with fail
    have hg:=PG (w:=w5) (g:=gs) (vd vn z.a) (vd vn z.b) (vd vn z.c);have ks:Blk _ gs 298 z.cs:=OG Tt (vd vn z.a) (vd vn z.b) (vd vn z.c);replace kg:=kg.grown hg (fun e=>by have:=Ya e;omega)
    replace da:=Ef da hg;clear hg cs fs Tt;generalize ((vF w5 _ _).setCell _ _).setCell _ _=W8 at ks kg da |-;rw [<- HZ.out] at ks;have cj:=ks.cell j;rw [St.cs_at _ tn] at cj;have ci:=kg.cell i;rw [Uf _ ta] at ci;rw [HSQ.out] at cj;have fi:=kg.frozen i;generalize (if i<i then Pn p s i else 0)=old at ci
    go_wp2_with fail
    have hg:W8.grownBy (W8.setCell ⟨gs+1,i,vD⟩ (vd vn sv)) (vE (gs+1)):=mh (p:=⟨gs+1,i,vD⟩) (Ce W8 _) (.inl rfl) _;replace kg:=kg.set_ i (vd vn sv);have HN:(Qa m fun k=>if k<i then Pn p s k else 0).setIfInBounds i (vd vn sv)=Qa m (fun k=>if k<i+1 then Pn p s k else 0):=by rw [Lr,<- HSV.out,IL]
    rw [HN] at kg;replace ks:=ks.grown hg (fun e=>by have:=Ya e;omega)
    replace da:=Ef da hg;clear hg fi ci cj
    go_roundw
    case rel=>exact ⟨i+1,zO,by go_num,by rw [show (i+1-1) / 2=i / 2 by omega];exact ks,kg,da⟩
    case measure=>simp [intOf];omega
  ·obtain rfl:i=m:=by omega
   rw [show Qa i (fun k=>if k<i then Pn p s k else 0)=Qa i (Pn p s) from Ol fun k hk=>by rw [Ka hk]] at kg
   go_wp2;go_ret
   exact ⟨gs+1,rfl,zO,kg,da⟩
theorem IN {w w':vw} {base B:Nat} {e:vz} {size:Nat} {v:vx} {n:Nat} {xs:List vx} (h:w.ownsRow base e size v n xs) (hg:w.grownBy w' (vE B)) (hB:B<base):w'.ownsRow base e size v n xs:=by
 obtain ⟨h1,h2⟩:=h;refine ⟨h1,?_⟩;rcases h2 with h2 | ⟨g,cap,cur,hv,il,hh,r⟩
 ·exact Or.inl h2
 ·exact Or.inr ⟨g,cap,cur,hv,il,by rw [hg.block g (ru.1 hh).1 (fun e=>by have:=Ya e;omega)];exact hh,r⟩
theorem zH8 (f:Nat -> Nat) (i:Nat):(List.range i).map f++[f i]=(List.range (i+1)).map f:=by simp [List.range_succ]
def sX (rows:List Ua):Prop:=∀ r∈rows,r.a.length <= 100000 /\ r.b.length <= 100000 /\ r.c.length <= 100000
def aH (rows:List Ua):Nat:=(rows.map fun r=>r.a.length+r.b.length+r.c.length).sum
def PH (rows:List Ua):Prop:=sX rows -> rows.length+aH rows <= 400
def SmallB (rows:List Ua) (e:Ending):Prop:=∃ b,e=vl (.bool b) /\ (b=true -> PH rows)
theorem zJm (rows:List Ua) {j:Nat} (h:j<rows.length):aH (rows.take (j+1))=aH (rows.take j)+(rows[j].a.length+rows[j].b.length+rows[j].c.length):=by
 unfold aH;rw [Lv h,List.map_append,List.sum_append];simp
theorem RLin.open_ {w:vw} {v:vx} {l:List (Int × Nat)} (h:RLin w [v] l):∃ A n c,v=ve A n c /\ n <= maxLen /\ l.length=n:=by
 obtain ⟨A,n,c,e,h0,h1,h2,-⟩:=h;simp at e
 exact ⟨A,n,c,e,zO,h0⟩
theorem zH7 (p:Nat) (pub vars:Int) (A:Option vy) (n c:Nat) (rows:List Ua) (w:vw) (hr:RSl 3 je w [ve A n c] rows) :
  vB prog 89 #[Zb p pub vars (ve A n c)] w fun e w'=>SmallB rows e /\ vA w.1.size w w':=by
 obtain ⟨A',n',c',he,hlen,Sd,Ze,Ra⟩:=hr;simp at he
 obtain ⟨rfl,rfl,rfl⟩:=he;subst hlen;unfold Zb;have gm:(rows.length:Int) <= 9223372036854775807:=by
  have h3:=Sd;have h4:=Ze;simp [maxLen] at h4
  omega
 obtain ⟨w0,Fo⟩:=zEX (w.alloc (.cells #[vd vn p,vd vq pub,vd vq vars,ve A rows.length c] 25));have da:vA w.1.size w w0:=by rw [Fo];exact (tb _ w).alloc zR _
 have hB:Blk w0 w.1.size 25 #[vd vn p,vd vq pub,vd vq vars,ve A rows.length c]:=by rw [Fo];exact Blk.new w _ _
 go_enter func89,ntmps89
 go_wp2_with fail
 rw [<- Fo];have HW:=zH Fo;clear Fo;go_loopw [3,4] (fun s i wr=>∃ (j kk:Nat) (t:Int),j <= rows.length /\ i=vd vq j /\ s=vd vq t /\ wr=w0.drewN kk /\ Hid (sX rows -> t=(rows.length:Int)+(aH (rows.take j):Int)))
  (fun _ i _=>rows.length-(intOf i).toNat)
 case atStart=>exact ⟨0,0,rows.length,Kb _,rfl,rfl,rfl,fun _=>by simp [aH]⟩
 case round =>
  obtain ⟨j,kk,t,hj,rfl,rfl,rfl,HT⟩:=hrel;have s3:(w0.drewN kk).cell? ⟨w.1.size,3,vD⟩=vE (ve A rows.length c):=(hB.drewN kk).cell 3;by_cases ta:j<rows.length
  ·by_cases z1:t <= 400
   ·have d1:=xb z1
    obtain ⟨b,q,rfl⟩:=Ra.base zO zO;obtain ⟨cs,-,hc,x,y,z,rfl,td,Ie,ud⟩:=(Ra.below Og (yt da kk)).get ta;obtain ⟨A1,n1,c1,rfl,m1,u1⟩:=RLin.open_ td;obtain ⟨A2,n2,c2,rfl,m2,u2⟩:=RLin.open_ Ie;obtain ⟨A3,n3,c3,rfl,m3,u3⟩:=RLin.open_ ud;have HU:=zH (And.intro ta (And.intro u1 (And.intro u2 u3)));clear u1 u2 u3;have h0:(w0.drewN kk).cell? ⟨b,q+j*3,vD⟩=vE _:=hc 0 zO;have h1:(w0.drewN kk).cell? ⟨b,q+j*3+1,vD⟩=vE _:=hc 1 zO;have h2:(w0.drewN kk).cell? ⟨b,q+j*3+2,vD⟩=vE _:=hc 2 zO;have i1:(0:Int)<=j:=by omega
    have i2:(j:Int)<rows.length:=by omega
    simp [maxLen] at m1 m2 m3 h0 h1 h2
    clear hc td Ie ud;simp at s3
    go_wp2_with fail
    go_quiet (fail)
    go_wp2
    go_roundw
    case rel =>
     refine ⟨j+1,_,_,zO,by go_num,rfl,rfl,fun hs=>?_⟩
     obtain ⟨hl,u1,u2,u3⟩:=HU.out;have h1:=HT.out hs;have h2:=hs rows[j] (He hl);rw [zJm rows hl];unfold wrap64;omega
    case measure=>simp [intOf];omega
   ·have d1:=db z1
    go_wp2;go_ret
    exact ⟨⟨_,rfl,fun h=>by simp at h⟩,yt da _⟩
  ·obtain rfl:j=rows.length:=by omega
   go_wp2;go_ret
   refine ⟨⟨_,rfl,fun h hs=>?_⟩,yt da _⟩
   have h1:=HT.out hs;rw [qt] at h1;simp at h
   omega
theorem zEq (n:Nat) (w:vw) (hn:n <= 4096) :
  vB prog 154 #[vd vq n] w fun e w'=>∃ k,e=vl (vd vq ((2^k:Nat):Int)) /\ n <= 2^k /\ 2^k <= 2*n+1 /\ (1 <= n -> 2^k<2*n) /\ w'=w:=by
 go_enter func154,ntmps154
 go_wp2_with fail
 go_loopw [3] (fun i wr=>∃ (k m:Nat),i=vd vq m /\ Hid (m=2^k) /\ 0<m /\ m <= 2*n+1 /\ Hid (1 <= n -> m<2*n) /\ wr=w)
  (fun i _=>2*n+1-(intOf i).toNat)
 case atStart=>exact ⟨0,1,rfl,rfl,zO,zO,(fun _=>zO),zS⟩
 case round =>
  obtain ⟨k,m,rfl,HM,ZF,Eo,HL,rfl⟩:=hrel;by_cases ta:m<n
  ·go_wp2
   go_roundw
   case rel =>
    refine ⟨k+1,2*m,by go_num,?_,zO,zO,(fun _=>zO),zS⟩
    show 2*m=2^(k+1)
    rw [HM.out,Sf,ye]
   case measure=>simp [intOf];omega
  ·go_wp2
   go_ret
   refine ⟨k,?_,?_,?_,?_,rfl⟩
   ·rw [<- HM.out];rfl
   ·rw [<- HM.out];omega
   ·rw [<- HM.out];omega
   ·rw [<- HM.out];exact HL.out
structure Na where
 p:Nat
 block:Nat
 queries:Nat
 k:Nat
 n:Nat
 secret:Nat
 rows:Nat
 a:Nat
 b:Nat
def ib (l:Na):Array vx:=#[vd vn l.p,vd vq l.block,vd vq l.queries,vd vq l.k,vd vq l.n,vd vq l.secret,vd vq l.rows,vd vq l.a,vd vq l.b,vd vq l.b,vd vq l.b]
def qg:Array vx:=#[vd vn 0,vd vq 0,vd vq 0,vd vq 0,vd vq 0,vd vq 0,vd vq 0,vd vq 0,vd vq 0,vd vq 0,vd vq 0]
structure Nb (l:Na):Prop where
 p:Jb l.p=true
 b1:2 <= l.block
 b2:l.block <= 256
 q1:1 <= l.queries
 q2:l.queries <= 64
 k:l.k=l.block+l.queries
 n:∃ j,l.n=2^j
 n2:l.n <= 1024
 s:l.secret <= 65536
 r:l.rows <= 16384
 a:l.a <= 100000
 b:l.b <= 100000
 bj:l.block &&& (l.block-1)=0
 bd:(l.p-1)%l.block=0
 nd:(l.p-1)%l.n=0
 nl:l.n<l.p-1
 nk:2*l.k <= l.n
 ae:l.a=(l.secret+l.block-1) / l.block
 be:l.b=(l.rows+l.block-1) / l.block
def Cp (n:Nat):Nat:=2^((n-1).log2+1)
theorem zEm {n m:Nat} (hn:2 <= n) (h:∃ k,m=2^k) (h1:n <= m) (h2:m<2*n):m=Cp n:=by
 obtain ⟨k,rfl⟩:=h;cases k with
 | zero=>simp at h1;omega
 | succ k =>
  unfold Cp;rw [Sf] at h1 h2;have:(n-1).log2=k:=(Nat.log2_eq_iff zO).2 ⟨zO,by rw [Sf];omega⟩
  rw [this]
structure NewIn where
 p:Nat
 pub:Int
 vars:Int
 nr:Nat
 bl:Int
 bw:Int
 qs:Int
def NewIn.n (x:NewIn):Nat:=x.bw.toNat*Cp (2*(x.bl.toNat+x.qs.toNat))
def Zw (x:NewIn):Int :=
 if x.bl<2 \/ 256<x.bl \/ x.bl.toNat &&& (x.bl.toNat-1)≠0 \/ x.qs<1 \/ 64<x.qs \/ (x.bw≠1 /\ x.bw≠2 /\ x.bw≠4 /\ x.bw≠8) then 1
 else if (x.p-1)%x.bl.toNat≠0 \/ (x.p-1)%x.n≠0 \/ x.p-1 <= x.n then 7
 else if 1024<x.n then 3 else 0
def VQ (x:NewIn):Na:=⟨x.p,x.bl.toNat,x.qs.toNat,x.bl.toNat+x.qs.toNat,x.n,(x.vars-1-x.pub).toNat,x.nr,((x.vars-1-x.pub).toNat+x.bl.toNat-1) / x.bl.toNat,(x.nr+x.bl.toNat-1) / x.bl.toNat⟩
structure Lj (L:Na) (x:NewIn):Prop where
 p:L.p=x.p
 eq:L=VQ x
 err:Zw x=0
 pub:0 <= x.pub
 vars:x.pub<x.vars
theorem zBv {w w1:vw} {t1 t2 t3:vz} {ke Tf pk:Array vx} (hb:vA (((w.alloc (.cells ke t1)).alloc (.cells Tf t2)).alloc (.cells pk t3)).1.size (((w.alloc (.cells ke t1)).alloc (.cells Tf t2)).alloc (.cells pk t3)) w1) :
  Blk w1 w.1.size t1 ke /\ Blk w1 (w.1.size+1) t2 Tf /\ Blk w1 (w.1.size+1+1) t3 pk /\ vA w.1.size w w1:=by
 refine ⟨(((Blk.new w t1 ke).alloc _).alloc _).below hb zT,?_,?_,ma ((((tb _ w).alloc zR _).alloc zS _).alloc zT _) hb⟩
 ·have:=((Blk.new (w.alloc (.cells ke t1)) t2 Tf).alloc (.cells pk t3)).below hb zS
  simpa using this
 ·have:=(Blk.new ((w.alloc (.cells ke t1)).alloc (.cells Tf t2)) t3 pk).below hb zS
  simpa using this
section
variable {w w0:vw} {g B:Nat} {t:vz} {cs:Array vx}
theorem zIP {y0 y1 y2 y3 y4 y5 y6 y7 y8 y9 se:vx} (k:Blk w g t #[y0,y1,y2,y3,y4,y5,y6,y7,y8,y9,se]) (x0 x1 x2 x3 x4 x5 x6 x7 x8 x9 Qo:vx) :
  Blk (((((((((((w.setCell ⟨g,0,vD⟩ x0).setCell ⟨g,1,vD⟩ x1).setCell ⟨g,2,vD⟩ x2).setCell ⟨g,3,vD⟩ x3).setCell ⟨g,4,vD⟩ x4).setCell ⟨g,5,vD⟩ x5).setCell ⟨g,6,vD⟩ x6).setCell ⟨g,7,vD⟩ x7).setCell ⟨g,8,vD⟩ x8).setCell ⟨g,9,vD⟩ x9).setCell ⟨g,10,vD⟩ Qo) g t #[x0,x1,x2,x3,x4,x5,x6,x7,x8,x9,Qo]:=by
 have h:=((((((((((k.set_ 0 x0).set_ 1 x1).set_ 2 x2).set_ 3 x3).set_ 4 x4).set_ 5 x5).set_ 6 x6).set_ 7 x7).set_ 8 x8).set_ 9 x9).set_ 10 Qo
 simpa using h
theorem zIO (h:vA B w0 w) (hg:B <= g) (x0 x1 x2 x3 x4 x5 x6 x7 x8 x9 Qo:vx) :
  vA B w0 (((((((((((w.setCell ⟨g,0,vD⟩ x0).setCell ⟨g,1,vD⟩ x1).setCell ⟨g,2,vD⟩ x2).setCell ⟨g,3,vD⟩ x3).setCell ⟨g,4,vD⟩ x4).setCell ⟨g,5,vD⟩ x5).setCell ⟨g,6,vD⟩ x6).setCell ⟨g,7,vD⟩ x7).setCell ⟨g,8,vD⟩ x8).setCell ⟨g,9,vD⟩ x9).setCell ⟨g,10,vD⟩ Qo) :=
 ((((((((((h.setCell hg x0).setCell hg x1).setCell hg x2).setCell hg x3).setCell hg x4).setCell hg x5).setCell hg x6).setCell hg x7).setCell hg x8).setCell hg x9).setCell hg Qo
theorem aE {y0 y1 y2 y3 y4 y5 y6 y7 y8 y9 se:vx} (k:Blk w g t #[y0,y1,y2,y3,y4,y5,y6,y7,y8,y9,se]) (h:vA B w0 w) (x0 x1 x2 x3 x4 x5 x6 x7 x8 x9 Qo:Int) (hg:B <= g:=by omega):∃ wf,(((((((((((w.setCell ⟨g,0,vD⟩ (vd vn x0)).setCell ⟨g,1,vD⟩ (vd vq x1)).setCell ⟨g,2,vD⟩ (vd vq x2)).setCell ⟨g,3,vD⟩ (vd vq x3)).setCell ⟨g,4,vD⟩ (vd vq x4)).setCell ⟨g,5,vD⟩ (vd vq x5)).setCell ⟨g,6,vD⟩ (vd vq x6)).setCell ⟨g,7,vD⟩ (vd vq x7)).setCell ⟨g,8,vD⟩ (vd vq x8)).setCell ⟨g,9,vD⟩ (vd vq x9)).setCell ⟨g,10,vD⟩ (vd vq Qo))=wf /\ Blk wf g t #[vd vn x0,vd vq x1,vd vq x2,vd vq x3,vd vq x4,vd vq x5,vd vq x6,vd vq x7,vd vq x8,vd vq x9,vd vq Qo] /\ vA B w0 wf :=
 ⟨_,rfl,zIP k _ _ _ _ _ _ _ _ _ _ _,zIO h hg _ _ _ _ _ _ _ _ _ _ _⟩
theorem eu {y0 y1 y2 y3 y4 y5 y6 y7 y8 y9 se:vx} (k:Blk w g t #[y0,y1,y2,y3,y4,y5,y6,y7,y8,y9,se]) (h:vA B w0 w) (hg:B <= g:=by omega):type_of% (aE k h 0 0 0 0 0 0 0 0 0 0 0 hg):=aE k h 0 0 0 0 0 0 0 0 0 0 0 hg
theorem RR {y0 y1 y2 y3 y4 y5 y6 y7 y8 y9 se:vx} (k:Blk w g t #[y0,y1,y2,y3,y4,y5,y6,y7,y8,y9,se]) (h:vA B w0 w) (L:Na) (hg:B <= g:=by omega):type_of% (aE k h L.p L.block L.queries L.k L.n L.secret L.rows L.a L.b L.b L.b hg):=aE k h L.p L.block L.queries L.k L.n L.secret L.rows L.a L.b L.b L.b hg
end
theorem LO:∀ b:Fin 257,2 <= b.val -> bits .and vq (b.val:Int) ((b.val:Int)-1)=((b.val &&& (b.val-1):Nat):Int):=by decide +kernel
section
variable (p:Nat) (pub vars:Int) (A:Option vy) (n c:Nat) (rows:List Ua) (bl bw qs:Int) (w:vw)
def Iq:Array vx:=#[Zb p pub vars (ve A n c),vf #[vd vq bl,vd vq bw,vd vq qs]]
end
theorem zH2 (p:Nat) (pub vars:Int) (A:Option vy) (n c:Nat) (rows:List Ua) (bl bw qs:Int) (w:vw) (hr:RSl 3 je w [ve A n c] rows) (ht:Yc p pub vars rows=true)
  (h:bl<2 \/ 256<bl \/ bl.toNat &&& (bl.toNat-1)≠0 \/ qs<1 \/ 64<qs \/ (bw≠1 /\ bw≠2 /\ bw≠4 /\ bw≠8)) :
  vB prog 73 (Iq p pub vars A n c bl bw qs) w fun e w'=>e=vl (.tuple #[vf qg,vd vq 1]) /\ vA w.1.size w w':=by
 have Xa:=ZG ht;have hp:=(Rb Xa).2;have HV:=zH (fun w' (hb:vA w.1.size w w')=>VN p pub vars A n c rows w' (Pg Og _ _ _ _ hb hr) hp)
 rw [ht] at HV;clear ht Xa hp;obtain ⟨A',n',c',he,hlen,-,-,-⟩:=hr;simp at he
 obtain ⟨rfl,rfl,rfl⟩:=he;subst hlen;unfold Iq Zb;have da:vA w.1.size w (((w.alloc (.cells #[vd vn p,vd vq pub,vd vq vars,ve A rows.length c] 25)).alloc (.cells #[vd vq bl,vd vq bw,vd vq qs] 27)).alloc (.cells qg 35)):=(((tb _ w).alloc zR _).alloc zS _).alloc zT _;unfold qg at da;have key:decide (bl<2)=true \/ decide (bl<2)=false /\ (decide (256<bl)=true \/ decide (256<bl)=false /\ ∃ b:Nat,bl=b /\ (1:Int) <= b /\ (b:Int) <= 256 /\ (0:Int)<=b-1 /\ ∃ r:Nat,bits .and vq (b:Int) ((b:Int)-1)=(r:Int) /\ (((r:Int) != 0)=true \/ r=0 /\ (decide (qs<1)=true \/ decide (qs<1)=false /\ (decide (64<qs)=true \/ decide (64<qs)=false /\ (bw != 1)=true /\ (bw != 2)=true /\ (bw != 4)=true /\ (bw != 8)=true)))):=by
  by_cases h0:bl<2
  ·exact .inl (xb h0)
  refine .inr ⟨db h0,?_⟩;by_cases h1:256<bl
  ·exact .inl (xb h1)
  refine .inr ⟨db h1,?_⟩;obtain ⟨b,rfl⟩:=dk (show 0 <= bl by omega)
  rw [Rk] at h;refine ⟨b,rfl,zO,zO,zO,_,LO ⟨b,zO⟩ (by show 2 <= b;omega),?_⟩
  by_cases h2:b &&& (b-1)=0
  ·refine .inr ⟨h2,?_⟩
   by_cases h3:qs<1
   ·exact .inl (xb h3)
   refine .inr ⟨db h3,?_⟩;by_cases h4:64<qs
   ·exact .inl (xb h4)
   refine .inr ⟨db h4,?_⟩;simp only [ef];omega
  ·exact .inl (by rw [ef];exact fun e=>h2 (Int.ofNat.inj e))
 clear h;rcases key with d1 | ⟨d1,d2 | ⟨d2,b,rfl,i1,i3,i2,r,hand,d3 | ⟨rfl,d4 | ⟨d4,d5 | ⟨d5,e1,e2,e4,e8⟩⟩⟩⟩⟩
 all_goals
  go_enter func73,ntmps73
  go_wp2_with (go_at_call 110;refine (HV.out _ da).mono ?_;rintro e w1 ⟨rfl,hb⟩;obtain ⟨k2,k3,k4,Ib⟩:=zBv hb;have p0:w1.cell? ⟨w.1.size+1,0,vD⟩=vE (vd vq _):=k3.cell 0;have p1:w1.cell? ⟨w.1.size+1,1,vD⟩=vE (vd vq bw):=k3.cell 1;have p2:w1.cell? ⟨w.1.size+1,2,vD⟩=vE (vd vq qs):=k3.cell 2;have c4:=k4.cell;have f4:=k4.frozen;unfold qg at c4;clear hb)
  obtain ⟨wf,Ub,kW,hW⟩:=eu k4 Ib;rw [Ub];clear Ub c4 f4 p0 p1 p2 k2 k3 k4;have c4:=kW.cell;exact Sc (v:=.tuple #[vf qg,vd vq 1]) (by simp [results,results73,go_sem,c4,qg]) rfl ⟨rfl,hW⟩
def Bb:Nat:=18446744069414584321
theorem bR:Jb Bb=true:=by decide
def nI (x:Nat) (r:List Nat) (k:Nat):Nat:=Pn Bb (Pv Bb 22 (x%Bb :: r)) k
theorem O9 (x:Nat) (r:List Nat) (m g:Nat) (w:vw) (kg:Blk w g 22 (Oa (x :: r)).toArray) (hx:∀ y∈x :: r,y<18446744073709551616) (hr:r.length <= 1000) (hm:m <= 65536) :
  vB prog 199 #[vd vq m,ve (vE ⟨g,0,vD⟩) (r.length+1) (r.length+1)] w fun e w'=>∃ g',e=vl (ve (vE ⟨g',0,vD⟩) m m) /\ w.1.size <= g' /\ Blk w' g' 22 (Qa m (nI x r)) /\ w.grownBy w' (vE g):=by
 have HR:=zH (fun w=>rI Bb x w bR)
 have hq:x%Bb<18446744073709551616:=Nat.lt_of_le_of_lt (Nat.mod_le _ _) (hx x zS);obtain ⟨y,hy⟩:=zEX (x%Bb);have HD:=zH (show nI x r=Pn Bb (Pv Bb 22 (y :: r)) by rw [hy];rfl)
 rw [<- hy] at HR hq;rw [HD.out];have HS:=zH (fun w (k:Blk w g 22 (Oa (y :: r)).toArray)=>zG7 Bb 22 (vE ⟨g,0,vD⟩) (y :: r).length (y :: r).length m (y :: r) w bR (GJ k (fun z hz=>by
  rcases Ah.1 hz with rfl | h
  ·exact hq
  ·exact hx z (by simp [h])) (by simp [maxLen];omega)) zS zT hm)
 have xg:=zH (show (Oa (x :: r)).toArray.setIfInBounds 0 (vd vn y)=(Oa (y :: r)).toArray by simp [Oa])
 have Zg:w.cell? ⟨g,0,vD⟩=vE (vd vn x):=by rw [kg.cell];simp [Oa]
 have n1:(0:Int)<((r.length+1:Nat):Int):=by omega
 have n2:0<r.length+1:=by omega
 simp only [Jg] at HS;clear hy hq hx HD;generalize r.length+1=n at *;generalize Pn Bb (Pv Bb 22 (y :: r))=fs at *;unfold Bb fv at *;have lg:=kg.lt;go_enter func199,ntmps199
 go_wp2_with fail
 refine (HR.out _).mono ?_;rintro e w1 ⟨rfl,Ia⟩;replace kg:=kg.below Ia lg;have Ad:w1.cell? ⟨g,0,vD⟩=vE (vd vn x):=(Below.cell Ia lg).trans Zg;have f1:=kg.frozen 0;clear Zg;go_upto_region 2 with fail
 have hg:w1.grownBy (w1.setCell ⟨g,0,vD⟩ (vd vn y)) (vE g):=mh (p:=⟨g,0,vD⟩) (Ce w1 _) (.inl rfl) _;replace kg:=kg.set_ 0 (vd vn y);rw [xg.out] at kg;have Wa:=Mr (Vf (Ce w (vE g)) Ia zR) hg (fun _ e=>.inl e)
 have Xc:=Wa.size;clear hg f1 Ad Ia;generalize w1.setCell _ _=w2 at kg Wa Xc |-;go_wp2_with fail
 refine (HS.out _ kg).mono ?_;rintro e w3 ⟨g',rfl,sn,df,Ta⟩;go_wp2;go_ret
 exact ⟨g',rfl,zO,df,Vf Wa Ta Xc⟩
theorem El (x:Int) (h1:-9223372036854775808 <= x) (h2:x <= 9223372036854775807):vq.wrap x=x:=by rw [Bu];omega
theorem Qc (x:Int) (a:-9223372036854775808 <= x:=by omega) (b:x <= 9223372036854775807:=by omega):vq.wrap x=x:=El x a b
theorem zEu (n:Nat) (w:vw) (hn:n <= 4096):vB prog 154 #[vd vq n] w fun e w'=>∃ m,((∃ k,m=2^k) /\ n <= m /\ (1 <= n -> m<2*n)) /\ m <= 2*n+1 /\ e=vl (vd vq m) /\ w'=w :=
 (zEq n w hn).mono fun _ _ ⟨k,he,hl,hm,hs,hw⟩=>⟨2^k,⟨⟨k,rfl⟩,hl,hs⟩,hm,he,hw⟩
def WE (x:NewIn) (e:Ending):Prop:=∃ (lcs:Array vx) (er:Int),e=vl (.tuple #[vf lcs,vd vq er]) /\ ((er≠0 /\ lcs=qg /\ er=Zw x) \/ (er=0 /\ ∃ L,Nb L /\ Lj L x /\ lcs=ib L))
theorem r8 {p U V nr b q bw pm N NN:Nat} (h0:2 <= b) (h1:b <= 256) (h2:b &&& (b-1)=0) (h3:1 <= q) (h4:q <= 64) (hw:bw=1 \/ bw=2 \/ bw=4 \/ bw=8) (hp:pm=p-1) (hN:(∃ k,N=2^k) /\ 2*(b+q) <= N /\ (1 <= 2*(b+q) -> N<2*(2*(b+q)))) (Ni:NN=bw*N) :
  NN=NewIn.n ⟨p,U,V,nr,b,bw,q⟩ /\ Zw ⟨p,U,V,nr,b,bw,q⟩=if pm%b≠0 \/ pm%NN≠0 \/ pm <= NN then 7 else if 1024<NN then 3 else 0:=by
 have e:=zEm zO hN.1 hN.2.1 (hN.2.2 zO);have e2:NN=NewIn.n ⟨p,U,V,nr,b,bw,q⟩:=by
  show NN=(bw:Int).toNat*Cp (2*((b:Int).toNat+(q:Int).toNat))
  rw [Ni,e]
  rfl
 refine ⟨e2,?_⟩;unfold Zw;rw [<- e2,ya]
 ·simp only [Rk,hp]
 ·simp only [Rk]
  omega
theorem zH3 (p U V:Nat) (A:Option vy) (n c:Nat) (rows:List Ua) (b q:Nat) (x:Int) (w:vw) (hr:RSl 3 je w [ve A n c] rows) (ht:Yc p U V rows=true)
  (h0:2 <= b) (h1:b <= 256) (h2:b &&& (b-1)=0) (h3:1 <= q) (h4:q <= 64) (hx:x=1 \/ x=2 \/ x=4 \/ x=8) :
  vB prog 73 (Iq p U V A n c b x q) w fun e w'=>WE ⟨p,U,V,rows.length,b,x,q⟩ e /\ vA w.1.size w w':=by
 obtain ⟨B,t,Ej,hBt⟩:∃ B t:Nat,((x=1 /\ B=1) \/ (x=2 /\ B=2) \/ (x=4 /\ B=4) \/ (x=8 /\ B=8)) /\ B=2^t:=by
  rcases hx with rfl | rfl | rfl | rfl
  ·exact ⟨1,0,zS⟩
  ·exact ⟨2,1,zS⟩
  ·exact ⟨4,2,zS⟩
  ·exact ⟨8,3,zS⟩
 obtain ⟨X,hX⟩:∃ X:NewIn,X=⟨p,U,V,rows.length,b,x,q⟩:=⟨_,rfl⟩;rw [<- hX];have HX:=zH hX;have hX2:X=⟨p,U,V,rows.length,b,(B:Int),q⟩:=by rw [hX,show x=(B:Int) by omega]
 clear hX;obtain ⟨f,hf⟩:∃ f:Nat -> Nat,∀ N,f N=B*N:=⟨_,fun _=>rfl⟩
 have HFN:=zH hf;have HBN:=zH (show ∀ N:Nat,x*(N:Int)=((f N:Nat):Int) from fun N=>by rw [hf,Qf,show x=(B:Int) by omega])
 have HBT:=zH hBt;have Xa:=ZG ht;obtain ⟨zf,hp⟩:=Rb Xa;have HV:=zH (fun w' (hb:vA w.1.size w w')=>VN p U V A n c rows w' (Pg Og _ _ _ _ hb hr) hp)
 rw [ht] at HV;have hand:=LO ⟨b,zO⟩ (by show 2 <= b;omega)
 simp only at hand;rw [h2] at hand;have pJ:U<V /\ V <= 65536 /\ rows.length <= 16384:=by
  unfold Yc at ht;simp only [Vb,Gl,Nu] at ht;omega
 obtain ⟨t1,t2,t3⟩:=pJ;obtain ⟨A',n',c',he,hlen,Sd,Ze,-⟩:=hr;simp at he
 obtain ⟨rfl,rfl,rfl⟩:=he;subst hlen;unfold Iq Zb;have da:vA w.1.size w (((w.alloc (.cells #[vd vn p,vd vq U,vd vq V,ve A rows.length c] 25)).alloc (.cells #[vd vq b,vd vq x,vd vq q] 27)).alloc (.cells qg 35)):=(((tb _ w).alloc zR _).alloc zS _).alloc zT _;unfold qg at da;have d1:decide ((b:Int)<2)=false:=db zO;have d2:decide ((256:Int)<b)=false:=db zO;have d4:decide ((q:Int)<1)=false:=db zO;have d5:decide ((64:Int)<q)=false:=db zO;have i1:(1:Int)<=b:=by omega
 have i2:(0:Int)<=b-1:=by omega
 have i3:(b:Int) <= 256:=by omega
 have i4:(1:Int)<=q:=by omega
 have i5:(q:Int) <= 64:=by omega
 obtain ⟨k,hk⟩:=zEX (b+q);have ek:(b:Int)+q=(k:Int):=by omega
 obtain ⟨s,hs⟩:=zEX (V-1-U);have es:(V:Int)-1-(U:Int)=s:=by omega
 have i6:(V:Int) <= 65536:=by omega
 have i7:(1:Int)<=V:=by omega
 have i8:(k:Int) <= 320:=by omega
 have i9:(0:Int)<=k:=by omega
 obtain ⟨pm,ss⟩:=zEX (p-1);have ep:vn.wrap ((p:Int)-1)=(pm:Int):=by rw [ss];exact Az p 1 zO hp
 have HF:=zH (fun w=>zEu (2*k) w zO)
 have oI:(2:Int)*k=((2*k:Nat):Int):=by omega
 obtain ⟨kk,Mt⟩:=zEX (2*k);rw [<- Mt] at HF oI;have ek3:=Qc kk;have j1:kk <= 640:=by omega
 have HB:=zH (And.intro h0 h1);have HQ:=zH (And.intro h3 h4);have HK:=zH hk;have HS:=zH hs;have HT:=zH (And.intro Xa (And.intro t1 (And.intro t2 t3)));have gm:(rows.length:Int) <= 16384:=by omega
 have HP:=zH (show pm=p-1 /\ 17 <= p from ⟨ss,zf⟩)
 have hb256:vn.wrap (b:Int)=b:=Fl b zO;have HG:Hid (∀ N NN,((∃ k,N=2^k) /\ 2*(b+q) <= N /\ (1 <= 2*(b+q) -> N<2*(2*(b+q)))) -> NN=B*N -> NN=X.n /\ Zw X=if pm%b≠0 \/ pm%NN≠0 \/ pm <= NN then 7 else if 1024<NN then 3 else 0):=zH (by rw [hX2];exact fun N NN hN Ni=>r8 h0 h1 h2 h3 h4 zO ss hN Ni)
 have xd:=zH h2;have HKK:=zH (show kk=2*(b+q) by omega)
 clear h0 h1 h2 h3 h4 hk hs Mt Xa hp zf ht t1 t2 t3 ss hX2 hf hBt hx;rcases Ej with ⟨rfl,rfl⟩ | ⟨rfl,rfl⟩ | ⟨rfl,rfl⟩ | ⟨rfl,rfl⟩
 all_goals
  go_enter func73,ntmps73
  go_upto_region 4 with (go_at_call 110;refine (HV.out _ da).mono ?_;rintro e w1 ⟨rfl,hb⟩;obtain ⟨k2,k3,k4,Ib⟩:=zBv hb;have p0:w1.cell? ⟨w.1.size+1,0,vD⟩=vE (vd vq b):=k3.cell 0;have p1:w1.cell? ⟨w.1.size+1,1,vD⟩=vE (vd vq _):=k3.cell 1;have p2:w1.cell? ⟨w.1.size+1,2,vD⟩=vE (vd vq q):=k3.cell 2;have c2:=k2.cell;clear hb)
  have k2l:=k2.alloc (.cells #[vd vn p,vd vq b,vd vq q,vd vq k,vd vq 0,vd vq s,vd vq rows.length,vd vq 0,vd vq 0,vd vq 0,vd vq 0] 35);have k3l:=k3.alloc (.cells #[vd vn p,vd vq b,vd vq q,vd vq k,vd vq 0,vd vq s,vd vq rows.length,vd vq 0,vd vq 0,vd vq 0,vd vq 0] 35);have k4l:=k4.alloc (.cells #[vd vn p,vd vq b,vd vq q,vd vq k,vd vq 0,vd vq s,vd vq rows.length,vd vq 0,vd vq 0,vd vq 0,vd vq 0] 35);have k6:=Blk.new w1 35 #[vd vn p,vd vq b,vd vq q,vd vq k,vd vq 0,vd vq s,vd vq rows.length,vd vq 0,vd vq 0,vd vq 0,vd vq 0];have Gb:=Ib.alloc Ib.size (.cells #[vd vn p,vd vq b,vd vq q,vd vq k,vd vq 0,vd vq s,vd vq rows.length,vd vq 0,vd vq 0,vd vq 0,vd vq 0] 35);have hg:=k4.lt;clear p0 p1 p2 k2 k3 k4 Ib c2;revert k2l k3l k4l k6 Gb
  generalize w1.alloc _=wl;generalize w1.1.size=g at *;intro k2 k3 k4 k6 Gb;have p0:wl.cell? ⟨w.1.size,0,vD⟩=vE (vd vn p):=k2.cell 0;have p1:wl.cell? ⟨w.1.size+1,1,vD⟩=vE (vd vq _):=k3.cell 1;have c6:=k6.cell;have f6:=k6.frozen;have n1:w.1.size+1≠g:=by omega
  have l1:=k3.lt;refine zd (iM g 4) [5,8] [0,1,2,3,4,5,6,7,8] zK zK ?_;refine Gv (Hs g 4) ?_;intro Wc ea
  repeat ((first | refine xE (Hs g 4) rfl rfl (fun _ _ _ h=>h) ?_ | (refine uE (v:=?_) (Hs g 4) rfl rfl (fun _ _ _ h=>h) ?_ ?_;rotate_left;(· (intro w' hR;(first | have qn:=J8 (zM (Hs g 4) ea hR) | skip);have Ca:=K8 (zM (Hs g 4) ea hR) k6;go_simp;try with_reducible rfl))));refine zPU ?_)
  refine Ic (Hs g 4) rfl rfl rfl ((HF.out _).mono ?_);rintro e w2 ⟨N,HN,Yk,rfl,rfl⟩;refine ⟨_,rfl,(Hs g 4).refl _,?_⟩;replace ea:=zM (Hs g 4) ea ((Hs g 4).refl _);refine zPU ?_;have yy:N <= 1281:=by omega
  obtain ⟨NN,Ni⟩:=zEX (f N);rw [HFN.out] at Ni;have eN2:=Qc NN;have eN1:=HBN.out N;rw [HFN.out,<- Ni] at eN1
  try simp only [mo] at eN1
  clear HBN;clear HFN;rw [HKK.out] at HN;replace HG:=zH (HG.out _ _ HN Ni);replace HN:=zH HN;replace Ni:=zH Ni
  repeat ((first | refine xE (Hs g 4) rfl rfl (fun _ _ _ h=>h) ?_ | (refine uE (v:=?_) (Hs g 4) rfl rfl (fun _ _ _ h=>h) ?_ ?_;rotate_left;(· (intro w' hR;(first | have qn:=J8 (zM (Hs g 4) ea hR) | skip);have Ca:=K8 (zM (Hs g 4) ea hR) k6;go_simp;try with_reducible rfl))));refine zPU ?_)
  have hNN2:NN <= 10248:=by omega
  obtain ⟨v,kv⟩:=ea.2 _ _ k6.drew;have cv:=kv.cell;have fv:=kv.frozen;refine Te (Hs g 4) rfl rfl rfl ?_;go_simp;refine ⟨L8 _ _,?_⟩;replace ea:=zM (Hs g 4) ea (L8 w2 (vd vq NN));replace kv:=kv.set_ 4 (vd vq NN);simp at kv
  refine Hc ?_;have n2:w.1.size+1+1≠g:=by omega
  have zw:w.1.size <= g:=by omega
  have n0:w.1.size≠g:=by omega
  have il:=ea.1;have Zh:=k2.drew.grown il zT;have k4':=k4.drew.grown il zT;have Ur:=Gb.drew.trans (zt il w.1.size (by simp;exact Gb.size) (fun x hx=>by injection hx;omega))
  clear k2 k3 k4 Gb il ea p0 p1 c6 f6 cv fv k6 l1 eN2 ek oI ek3 es hand ep i1 i2 d1 d2 d4 d5 j1 hg n0 n1
  try clear eN1
  revert kv Zh k4' Ur
  generalize w2.setCell _ _=wl;intro kv k2 k4 Gb;have p0:wl.cell? ⟨w.1.size,0,vD⟩=vE (vd vn p):=k2.cell 0;have c6:=kv.cell;have f6:=kv.frozen;have c4:=k4.cell;have f4:=k4.frozen;have uj:0<NN:=by
   obtain ⟨⟨z,hz⟩,-⟩:=HN.out;have:0<2^z:=Nat.pow_pos zO;have:=Ni.out;omega
  have ep:vn.wrap ((p:Int)-1)=(pm:Int):=by rw [HP.out.1];exact Az p 1 (zQ HP.out.2) (Rb HT.out.1).2
  have eN:vn.wrap (NN:Int)=NN:=Fl _ zO;have q1:(0:Int)<b:=by have:=HB.out;omega
  have q2:¬((b:Int)=0):=by omega
  have q3:¬(b=0):=by omega
  have q4:(0:Int)<NN:=by omega
  have q5:¬((NN:Int)=0):=by omega
  have q6:¬(NN=0):=by omega
  have r1:(pm:Int)%(b:Int)=((pm%b:Nat):Int):=rfl;have r2:(pm:Int)%(NN:Int)=((pm%NN:Nat):Int):=rfl;have r3:(pm:Int).tmod (b:Int)=((pm%b:Nat):Int):=rfl;have r4:(pm:Int).tmod (NN:Int)=((pm%NN:Nat):Int):=rfl;have Jx:Hid (∀ {er:Int},(if pm%b≠0 \/ pm%NN≠0 \/ pm <= NN then (7:Int) else if 1024<NN then 3 else 0)=er -> er=Zw X):=fun h=>h.symm.trans (HG.out.2).symm
  obtain ⟨x1,td⟩:=zEX (pm%b);obtain ⟨x2,Ej⟩:=zEX (pm%NN);rw [<- td] at r1 r3;rw [<- Ej] at r2 r4;have QB:=zH td.symm;have Xm:=zH Ej.symm;clear td Ej;by_cases z1:x1=0
  ·subst z1
   by_cases z2:x2=0
   ·subst z2
    by_cases z3:pm <= NN
    ·have y1:decide ((pm:Int)<=NN)=true:=xb zO
     have y2:decide (pm <= NN)=true:=xb z3;go_wp2_with fail
     obtain ⟨wf,Ub,kW,hW⟩:=eu k4 Gb;rw [Ub];clear Ub c4 f4 c6 f6 p0 k4 kv;have c4:=kW.cell;exact Sc (v:=.tuple #[vf qg,vd vq 7]) (by simp [results,results73,go_sem,c4,qg]) rfl ⟨⟨_,_,rfl, .inl ⟨zD,rfl,Jx.out (by rw [Ka (.inr (.inr z3))])⟩⟩,hW⟩
    ·have y1:decide ((pm:Int)<=NN)=false:=db zO
     have y2:decide (pm <= NN)=false:=db z3;by_cases z4:1024<NN
     ·have y3:decide ((1024:Int)<NN)=true:=xb zO
      have y4:decide (1024<NN)=true:=xb z4;go_wp2_with fail
      obtain ⟨wf,Ub,kW,hW⟩:=eu k4 Gb;rw [Ub];clear Ub c4 f4 c6 f6 p0 k4 kv;have c4:=kW.cell;exact Sc (v:=.tuple #[vf qg,vd vq 3]) (by simp [results,results73,go_sem,c4,qg]) rfl ⟨⟨_,_,rfl, .inl ⟨zD,rfl,Jx.out (by rw [ya (by rw [QB.out,Xm.out];omega),Ka z4])⟩⟩,hW⟩
     ·have y3:decide ((1024:Int)<NN)=false:=db zO
      have y4:decide (1024<NN)=false:=db z4;have HU:=zH (fun w=>zBE rows.length b w (zQ HT.out) zO zO)
      have Wo:=zH (fun w=>zBE s b w (by have:=HT.out;have:=HS.out;omega) zO zO)
      have u1:(rows.length+b-1) / b <= 100000:=zb (Rz _ _) zO;have u2:(s+b-1) / b <= 100000:=zb (Rz _ _) (by have:=HT.out;have:=HS.out;omega)
      revert HU Wo u1 u2
      obtain ⟨ub,rJ⟩:=zEX ((rows.length+b-1) / b);obtain ⟨ua,qJ⟩:=zEX ((s+b-1) / b);rw [<- rJ,<- qJ];have HUB:=zH rJ;have HUA:=zH qJ;clear rJ qJ;intro HU Wo u1 u2;go_wp2_with fail
      refine (HU.out _).mono ?_;rintro e w5 ⟨rfl,rfl⟩;go_wp2_with fail
      refine (Wo.out _).mono ?_;rintro e w6 ⟨rfl,rfl⟩;go_wp2_with fail
      have k5:=(((k4.far (p:=⟨g,7,vD⟩) n2 (vd vq ua)).far (p:=⟨g,8,vD⟩) n2 (vd vq ub)).far (p:=⟨g,9,vD⟩) n2 (vd vq ub)).far (p:=⟨g,10,vD⟩) n2 (vd vq ub);have Za:=(((Gb.setCell (p:=⟨g,7,vD⟩) zw (vd vq ua)).setCell (p:=⟨g,8,vD⟩) zw (vd vq ub)).setCell (p:=⟨g,9,vD⟩) zw (vd vq ub)).setCell (p:=⟨g,10,vD⟩) zw (vd vq ub);obtain ⟨wf,Ub,kW,hW⟩:=aE k5 Za p b q k NN s rows.length ua ub ub ub;rw [Ub];clear Ub c4 f4 c6 f6 p0 k4 kv k5 Za;have c4:=kW.cell;have HL:Nb ⟨p,b,q,k,NN,s,rows.length,ua,ub⟩:=by
       have hB:=HB.out;have hQ:=HQ.out;have hT:=HT.out;obtain ⟨⟨z,hz⟩,Ve,-⟩:=HN.out;refine ⟨hT.1,hB.1,hB.2,hQ.1,hQ.2,HK.out,⟨z+t,?_⟩,by show NN <= 1024;omega,by have:=HS.out;show s <= 65536;omega,hT.2.2.2,u2,u1,xd.out,?_,?_,?_,?_,HUA.out,HUB.out⟩
       ·show NN=2^(z+t)
        rw [Ni.out,hz,Nat.pow_add,<- HBT.out,ye]
       ·show (p-1)%b=0
        rw [<- HP.out.1];exact QB.out
       ·show (p-1)%NN=0
        rw [<- HP.out.1];exact Xm.out
       ·show NN<p-1
        rw [<- HP.out.1];omega
       ·show 2*k <= NN
        have:=Ni.out;have:=HK.out;omega
      have Wq:Lj ⟨p,b,q,k,NN,s,rows.length,ua,ub⟩ X:=by
       have e1:((V:Int)-1-(U:Int)).toNat=s:=by have:=HS.out;omega
       have e5:=HG.out.1.symm;have e6:=Jx.out (by rw [ya (by rw [QB.out,Xm.out];omega),ya z4])
       rw [HX.out] at e5 e6 |-;refine ⟨rfl,?_,e6.symm,by show (0:Int) <= U;omega,by have:=HT.out;show (U:Int)<V;omega⟩
       unfold VQ;simp only [Rk,e1];rw [e5,HK.out,HUA.out,HUB.out]
      exact Sc (v:=.tuple #[vf (ib ⟨p,b,q,k,NN,s,rows.length,ua,ub⟩),vd vq 0]) (by simp [results,results73,go_sem,c4,ib]) rfl ⟨⟨_,_,rfl, .inr ⟨rfl,_,HL,Wq,rfl⟩⟩,hW⟩
   ·have y1:((x2:Int) != 0)=true:=by rw [ef];omega
    have y2:(x2 != 0)=true:=by rw [ef];exact z2
    go_wp2_with fail
    obtain ⟨wf,Ub,kW,hW⟩:=eu k4 Gb;rw [Ub];clear Ub c4 f4 c6 f6 p0 k4 kv;have c4:=kW.cell;exact Sc (v:=.tuple #[vf qg,vd vq 7]) (by simp [results,results73,go_sem,c4,qg]) rfl ⟨⟨_,_,rfl, .inl ⟨zD,rfl,Jx.out (by rw [Ka (.inr (.inl (by rw [Xm.out];exact z2)))])⟩⟩,hW⟩
  ·have y1:((x1:Int) != 0)=true:=by rw [ef];omega
   have y2:(x1 != 0)=true:=by rw [ef];exact z1
   go_wp2_with fail
   obtain ⟨wf,Ub,kW,hW⟩:=eu k4 Gb;rw [Ub];clear Ub c4 f4 c6 f6 p0 k4 kv;have c4:=kW.cell;exact Sc (v:=.tuple #[vf qg,vd vq 7]) (by simp [results,results73,go_sem,c4,qg]) rfl ⟨⟨_,_,rfl, .inl ⟨zD,rfl,Jx.out (by rw [Ka (.inl (by rw [QB.out];exact z1))])⟩⟩,hW⟩
def oP (p x:Nat) (r:List Nat) (k:Nat):Nat:=nI x r k%p
def St.lt (p:Nat) (s:St):Prop:=s.a<p /\ s.b<p /\ s.c<p
theorem yW {p:Nat} (hp:0<p) (s:St):(PD p s).lt p:=⟨mc _ hp,mc _ hp,mc _ hp⟩
theorem ZS {p:Nat} (hp:0<p):∀ (l:List Nat) (s:St),s.lt p -> (WB p l s).lt p
 | [],_,h=>h
 | [_],_,_=>yW hp _
 | _ :: _ :: r,_,_=>ZS hp r _ (yW hp _)
theorem zHo {p:Nat} (hp:0<p) (s:St) (h:s.lt p):∀ m,(OD p s m).lt p
 | 0=>h
 | _+1=>yW hp _
theorem zI3 (p label:Nat) (l:List Nat) (k:Nat) (hp:0<p):Pn p (Pv p label l) k<p:=by
 have h:=zHo hp _ (ZS hp l ⟨0,0,(label*65536%p+l.length)%p⟩ ⟨hp,hp,mc _ hp⟩) (k / 2);show St.at_ _ (k%2)<p
 unfold St.at_;split
 ·exact h.1
 ·split
  ·exact h.2.1
  ·exact h.2.2
theorem yZ (L:Na) (w:vw) (hL:Nb L) :
  vB prog 118 #[vf (ib L)] w fun e w'=>e=vl (vf #[vd vq L.k,vd vq ((L.k+L.block-2:Nat):Int),vd vq ((L.block+2*L.queries-1:Nat):Int)]) /\ vA w.1.size w w':=by
 have h1:=hL.b1;have h2:=hL.b2;have h3:=hL.q1;have h4:=hL.q2;have h5:=hL.k;obtain ⟨x,hx⟩:=zEX (L.k+L.block-2);obtain ⟨y,hy⟩:=zEX (L.block+2*L.queries-1);rw [<- hx,<- hy];have e1:vq.wrap ((L.k:Int)+L.block)=(L.k:Int)+L.block:=El _ zO zO;have e2:vq.wrap ((L.k:Int)+L.block-2)=(x:Int):=by rw [El _ zO zO];omega
 have e3:vq.wrap (2*(L.queries:Int))=2*(L.queries:Int):=El _ zO zO;have e4:vq.wrap ((L.block:Int)+2*(L.queries:Int))=(L.block:Int)+2*(L.queries:Int):=El _ zO zO;have e5:vq.wrap ((L.block:Int)+2*(L.queries:Int)-1)=(y:Int):=by rw [El _ zO zO];omega
 clear h1 h2 h3 h4 h5 hx hy hL;unfold ib at *;go_enter func118,ntmps118
 go_wp2_with fail
 exact Sc (v:=vf #[vd vq L.k,vd vq x,vd vq y]) (by simp [results,results118,go_sem]) rfl ⟨rfl,((tb _ w).alloc zR _).alloc zS _⟩
theorem zFE (L:Na) (x:Nat) (r:List Nat) (m g:Nat) (w:vw) (hp:Jb L.p=true) (kg:Blk w g 22 (Oa (x :: r)).toArray) (hx:∀ y∈x :: r,y<18446744073709551616) (hr:r.length <= 1000) (hm:m <= 65536) :
  vB prog 198 #[vf (ib L),vd vq m,ve (vE ⟨g,0,vD⟩) (r.length+1) (r.length+1)] w fun e w'=>∃ g',e=vl (ve (vE ⟨g',0,vD⟩) m m) /\ w.1.size <= g' /\ Blk w' g' 22 (Qa m (oP L.p x r)) /\ w.grownBy w' (vE g):=by
 have HD:=zH (fun w k=>O9 x r m g w k hx hr hm)
 have HR:=zH (fun n w=>rI L.p n w hp)
 have lg:=kg.lt;obtain ⟨kl,kf,Zk,jb⟩:=Yg w 101 224 (ib L) #[vd vn L.p];have NA:=kg.below Zk lg;have HF:=zH (fun k hk=>Uf (n:=m) (f:=nI x r) (k:=k) hk)
 have hfp:oP L.p x r=fun k=>nI x r k%L.p:=rfl
 rw [hfp];clear hx hr hfp;generalize r.length+1=n at *;generalize nI x r=fs at *;generalize (Oa (x :: r)).toArray=us at *;unfold ib fv at *;generalize L.p=p at *;go_enter func198,ntmps198
 go_wp2_with fail
 generalize (w.alloc _).alloc _=w2 at kf NA Zk jb |-;clear kl kg;refine (HD.out _ NA).mono ?_;rintro e w3 ⟨g',rfl,sn,df,Wa⟩;replace kf:=kf.grown Wa (fun e=>by have:=Ya e;omega)
 replace Wa:w.grownBy w3 (vE g):=Mr (Vf (Ce w (vE g)) Zk zR) Wa (fun _ e=>.inl e)
 rw [show Qa m fs=Qa m (fun k=>if k<0 then fs k%p else fs k) from Ol fun i _=>by rw [ya zO]] at df
 clear NA;go_wp2_with fail
 go_loopw [19] (fun y wr=>∃ i:Nat,i <= m /\ y=vd vq i /\ Blk wr (w.1.size+1) 224 #[vd vn p] /\ Blk wr g' 22 (Qa m fun k=>if k<i then fs k%p else fs k) /\ w.grownBy wr (vE g)) (fun y _=>m-(intOf y).toNat)
 case atStart=>exact ⟨0,Kb _,rfl,kf,df,Wa⟩
 case round =>
  clear kf df Wa;obtain ⟨i,hi,rfl,kf,df,Wa⟩:=hrel;by_cases ta:i<m
  ·have g2:(i:Int)<m:=by omega
   have g3:(0:Int)<=i:=by omega
   have ci:=df.cell i;rw [Uf _ ta,ya (Nat.lt_irrefl i)] at ci;have cf:=kf.cell;obtain ⟨fi,UI⟩:=zEX (fs i);obtain ⟨z,hz⟩:=zEX (fi%p);have HZ:=zH (show fs i%p=z by rw [<- UI,hz])
   have HX:=zH (fun w=>by have:=HR.out fi w;rw [<- hz] at this;exact this)
   rw [<- UI] at ci;clear UI hz;go_wp2_with fail
   refine (HX.out _).mono ?_;rintro e w5 ⟨rfl,Za⟩;replace kf:=ia kf Za;replace df:=df.below Za df.lt;have cN:w.grownBy w5 (vE g):=Vf Wa Za Wa.size;clear ci cf Wa Za;have fi2:=df.frozen i;have ci2:=df.cell i;rw [Uf _ ta] at ci2;generalize (if i<i then fs i%p else fs i)=old at ci2
   go_wp2_with fail
   have hg:w5.grownBy (w5.setCell ⟨g',i,vD⟩ (vd vn z)) (vE g'):=mh (p:=⟨g',i,vD⟩) (Ce w5 _) (.inl rfl) _;replace kf:=kf.grown hg (fun e=>by have:=Ya e;omega)
   replace df:=df.set_ i (vd vn z);have HN:(Qa m fun k=>if k<i then fs k%p else fs k).setIfInBounds i (vd vn z)=Qa m (fun k=>if k<i+1 then fs k%p else fs k):=by
    rw [Lr];refine Ol fun k _=>?_
    simp only [Cf];by_cases h:k=i
    ·subst h;rw [Ka rfl,Ka zO,HZ.out]
    ·rw [ya h]
     by_cases h2:k<i
     ·rw [Ka h2,Ka zO]
     ·rw [ya h2,ya zO]
   rw [HN] at df;have YK:=Mr cN hg (fun b e=>by have:=Ya e;subst this;exact .inr zO)
   clear cN hg fi2 ci2
   go_roundw
   case rel=>exact ⟨i+1,zO,by go_num,kf,df,YK⟩
   case measure=>simp [intOf];omega
  ·obtain rfl:i=m:=by omega
   rw [show Qa i (fun k=>if k<i then fs k%p else fs k)=Qa i (fun k=>fs k%p) from Ol fun k hk=>by rw [Ka hk]] at df
   go_wp2;go_ret
   exact ⟨g',rfl,zO,df,Wa⟩
structure Qn where
 lab:Nat
 el:List Nat
 ans:Nat
structure Da where
 ideal:Bool
 st:Nat
 dr:Nat
 qs:List Qn
def Kc (l:List Nat):Bool:=l.all fun x=>decide (x<Bb)
def Lo (lab:Nat) (l:List Nat):Nat:=(Pv Bb lab l).a
theorem gO (lab:Nat) (l:List Nat):Lo lab l<Bb:=(ZS (p:=Bb) zD l ⟨0,0,(lab*65536%Bb+l.length)%Bb⟩ ⟨show 0<Bb by decide,show 0<Bb by decide,mc _ zD⟩).1
def mF (s:Nat):Nat:=(s+11400714819323198485)%18446744073709551616
def iP (z:Nat):Nat:=(z ^^^ (z >>> 30))*13787848793156543929%18446744073709551616
def jP (z:Nat):Nat:=(z ^^^ (z >>> 27))*10723151780598845931%18446744073709551616
def lP (z:Nat):Nat:=(z ^^^ (z >>> 31))%Bb
def dMix (z:Nat):Nat:=lP (jP (iP z))
def Nn (lab:Nat) (el:List Nat) (q:Qn):Bool:=q.lab == lab&&q.el == el
def ze (qs:List Qn) (lab:Nat) (el:List Nat):Option Nat:=(qs.find? (Nn lab el)).map (·.ans)
def jn (O:Da) (lab:Nat) (el:List Nat) (a:Nat):Da:=⟨O.ideal,O.st,O.dr,O.qs++[⟨lab,el,a⟩]⟩
def iy (O:Da):Da:=⟨O.ideal,mF O.st,O.dr+1,O.qs⟩
def oC (O:Da):Nat:=dMix (mF O.st)
def Xl (O:Da) (lab:Nat) (el:List Nat):Option Nat :=
 if Kc el then (match ze O.qs lab el with | some a=>vE a | none=>if O.ideal then vD else vE (Lo lab el)) else vD
def De (O:Da) (lab:Nat) (el:List Nat):Nat :=
 if Kc el then (match ze O.qs lab el with | some a=>a | none=>if O.ideal then oC O else Lo lab el) else 0
def ld (O:Da) (lab:Nat) (el:List Nat):Da :=
 if Kc el then (match ze O.qs lab el with | some _=>O | none=>if O.ideal then jn (iy O) lab el (oC O) else jn O lab el (Lo lab el)) else O
def newO (ideal:Bool) (Gg:Nat):Da:=⟨ideal,Gg,0,[]⟩
def Qg:List Nat -> List Nat
 | []=>[]
 | x :: r=>Je x 8++Qg r
theorem DQ:∀ (a b:List Nat),Qg (a++b)=Qg a++Qg b
 | [],b=>rfl
 | x :: r,b=>by simp [Qg,DQ r b]
theorem FQ:∀ (l:List Nat),(Qg l).length=8*l.length
 | []=>rfl
 | x :: r=>by simp [Qg,FQ r,yG];omega
theorem VZ:∀ (k n:Nat),∀ x∈Je n k,x<256
 | 0,_,x,h=>by simp [Je] at h
 | k+1,n,x,h=>by
  simp only [Je,Ah] at h;rcases h with rfl | h
  ·omega
  ·exact VZ k _ x h
theorem GV:∀ (l:List Nat),∀ x∈Qg l,x<256
 | [],x,h=>by simp [Qg] at h
 | y :: r,x,h=>by
  simp only [Qg,jq] at h;rcases h with h | h
  ·exact VZ 8 y x h
  ·exact GV r x h
theorem UZ:∀ (k a b:Nat),a<256^k -> b<256^k -> Je a k=Je b k -> a=b
 | 0,a,b,ha,hb,_=>by simp at ha hb;omega
 | k+1,a,b,ha,hb,h=>by
  simp only [Je,List.cons.injEq] at h;rw [Sf] at ha hb;have:=UZ k (a / 256) (b / 256) zO zO h.2;omega
theorem I6:∀ {a b:List Nat},(∀ x∈a,x<18446744073709551616) -> (∀ x∈b,x<18446744073709551616) -> Qg a=Qg b -> a=b
 | [],[],_,_,_=>rfl
 | [],y :: r,_,_,h=>by have:=congrArg List.length h;simp [FQ] at this
 | y :: r,[],_,_,h=>by have:=congrArg List.length h;simp [FQ] at this
 | x :: r,y :: s,ha,hb,h=>by
  simp only [Qg] at h;obtain ⟨h1,h2⟩:=List.append_inj h (by simp [yG])
  have e1:=UZ 8 x y (zQ (ha x zS)) (zQ (hb y zS)) h1;have e2:=I6 (fun z hz=>ha z (by simp [hz])) (fun z hz=>hb z (by simp [hz])) h2
  rw [e1,e2]
theorem zBD:∀ {a b:List Nat},(∀ x∈a,x<256) -> (∀ x∈b,x<256) -> a.map (fun n=>UInt8.ofNat n)=b.map (fun n=>UInt8.ofNat n) -> a=b
 | [],[],_,_,_=>rfl
 | [],y :: r,_,_,h=>by simp at h
 | y :: r,[],_,_,h=>by simp at h
 | x :: r,y :: s,ha,hb,h=>by
  simp only [List.map_cons,List.cons.injEq] at h;have e1:x=y:=by
   have h3:=congrArg UInt8.toNat h.1;simp only [UInt8.toNat_ofNat'] at h3;have:=ha x zS;have:=hb y zS;omega
  rw [e1,zBD (fun z hz=>ha z (by simp [hz])) (fun z hz=>hb z (by simp [hz])) h.2]
def Km (lab:Nat) (el:List Nat):Lit:=.string ((Qg (lab :: el)).map fun n=>UInt8.ofNat n)
theorem W5 (lab:Nat) (el:List Nat):WideAt.IsKeyLit (Km lab el):=trivial
theorem Qj {a:Nat} {l:List Nat} {B:Nat} (h:a<B) (hl:∀ x∈l,x<B):∀ x∈a :: l,x<B:=fun x hx=>by
 rcases Ah.1 hx with rfl | hx
 ·exact h
 ·exact hl x hx
theorem V5 {lab qv:Nat} {el el':List Nat} (h1:lab<18446744073709551616) (h2:qv<18446744073709551616) (h3:∀ x∈el,x<18446744073709551616) (h4:∀ x∈el',x<18446744073709551616) (h:Km lab el=Km qv el'):lab=qv /\ el=el':=by
 unfold Km at h
 injection h with h
 have:=I6 (a:=lab :: el) (b:=qv :: el') (Qj h1 h3) (Qj h2 h4) (zBD (GV _) (GV _) h)
 injection this with e1 e2
 exact ⟨e1,e2⟩
def rG (qs:List Qn):DataW Unit × Nat:=qs.foldl (fun s q=>(s.1.put (Km q.lab q.el) (.lit (.int vq s.2)),s.2+1)) (.map [],0)
def jv (qs:List Qn):DataW Unit:=(rG qs).1
theorem s6 (qs:List Qn) (q:Qn):rG (qs++[q])=((rG qs).1.put (Km q.lab q.el) (.lit (.int vq ((rG qs).2:Int))),(rG qs).2+1):=by simp [rG,List.foldl_append]
theorem SR {p:List Qn -> Prop} (h0:p []) (h1:∀ l q,p l -> p (l++[q])) (l:List Qn):p l:=by
 have:∀ n (l:List Qn),l.length=n -> p l:=by
  intro n
  induction n with
  | zero=>intro l hl;rw [UE hl];exact h0
  | succ n ih =>
   intro l hl;have Sa:l≠[]:=fun e=>by rw [e] at hl;simp at hl
   rw [<- List.dropLast_concat_getLast Sa];exact h1 _ _ (ih _ (by simp [hl]))
 exact this _ l rfl
theorem zFf (qs:List Qn):(rG qs).2=qs.length:=SR (p:=fun qs=>(rG qs).2=qs.length) rfl (fun l q h=>by rw [s6];simp [h]) qs
theorem vQ (qs:List Qn) (q:Qn):jv (qs++[q])=(jv qs).put (Km q.lab q.el) (.lit (.int vq qs.length)):=by
 unfold jv;rw [s6,zFf]
theorem p6 (qs:List Qn):IsMap (jv qs):=SR (p:=fun qs=>IsMap (jv qs)) isMap_empty (fun l q h=>by rw [vQ];exact h.put _ _) qs
theorem FK {l:List Nat} (h:Kc l=true):∀ x∈l,x<18446744073709551616:=fun x hx=>by
 have:=of_decide_eq_true (fe.1 h x hx);unfold Bb at this;omega
structure jM (q:Qn):Prop where
 lab:q.lab<18446744073709551616
 el:Kc q.el=true
 ans:q.ans<Bb
 len:q.el.length <= 1000000
structure OrcOk (O:Da):Prop where
 st:O.st<18446744073709551616
 qs:∀ q∈O.qs,jM q
 apart:O.qs.Pairwise fun a b=>¬(a.lab=b.lab /\ a.el=b.el)
 real:O.ideal=false -> ∀ q∈O.qs,q.ans=Lo q.lab q.el
theorem TN {lab:Nat} {el:List Nat} {q:Qn}:Nn lab el q=true↔q.lab=lab /\ q.el=el:=by simp [Nn]
theorem D6 {qs:List Qn} {lab:Nat} {el:List Nat} (h1:lab<18446744073709551616) (h2:∀ x∈el,x<18446744073709551616):(∀ q∈qs,jM q) -> Maps.has (jv qs) (Km lab el)=(ze qs lab el).isSome:=by
 refine SR (p:=fun qs=>(∀ q∈qs,jM q) -> Maps.has (jv qs) (Km lab el)=(ze qs lab el).isSome) (fun _=>rfl) (fun l q ih hq=>?_) qs
 have ih:=ih fun x hx=>hq x (by simp [hx])
 have hk:=hq q zS;rw [vQ];by_cases e:Km lab el=Km q.lab q.el
 ·obtain ⟨e1,e2⟩:=V5 h1 hk.lab h2 (FK hk.el) e
  rw [e,has_put_same (p6 l) (W5 _ _)];unfold ze;rw [Option.isSome_map,List.find?_isSome.2 ⟨q,zS,TN.2 ⟨e1.symm,e2.symm⟩⟩]
 ·rw [has_put_other e,ih]
  unfold ze;rw [List.find?_append];have:Nn lab el q=false:=by
   cases hc:Nn lab el q
   ·rfl
   ·obtain ⟨e1,e2⟩:=TN.1 hc
    exact absurd (by rw [e1,e2]) e
  simp [this]
theorem zFg {qs:List Qn} {lab:Nat} {el:List Nat} (h1:lab<18446744073709551616) (h2:∀ x∈el,x<18446744073709551616):(∀ q∈qs,jM q) -> (qs.Pairwise fun a b=>¬(a.lab=b.lab /\ a.el=b.el)) -> ∀ a,ze qs lab el=vE a -> ∃ (i:Nat) (q:Qn),qs[i]?=vE q /\ q.ans=a /\ ∀ z,(jv qs).atKey (Km lab el) z= .lit (.int vq i):=by
 refine SR (p:=fun qs=>(∀ q∈qs,jM q) -> (qs.Pairwise fun a b=>¬(a.lab=b.lab /\ a.el=b.el)) -> ∀ a,ze qs lab el=vE a -> ∃ (i:Nat) (q:Qn),qs[i]?=vE q /\ q.ans=a /\ ∀ z,(jv qs).atKey (Km lab el) z= .lit (.int vq i)) (fun _ _ a h=>by simp [ze] at h) (fun l q ih hq hp a ha=>?_) qs
 have hk:=hq q zS;rw [List.pairwise_append] at hp;have ih:=ih (fun x hx=>hq x (by simp [hx])) hp.1 a
 rw [vQ];by_cases e:Km lab el=Km q.lab q.el
 ·obtain ⟨e1,e2⟩:=V5 h1 hk.lab h2 (FK hk.el) e
  refine ⟨l.length,q,zS,?_,fun z=>by rw [e];exact atKey_put_same (p6 l) (W5 _ _) _ _⟩
  unfold ze at ha;rw [List.find?_append] at ha;have hn:l.find? (Nn lab el)=vD:=List.find?_eq_none.2 fun x hx hc=>by
   obtain ⟨e3,e4⟩:=TN.1 hc;exact hp.2.2 x hx q zS ⟨by rw [e3,e1],by rw [e4,e2]⟩
  rw [hn] at ha;simp [Nn,e1.symm,e2.symm] at ha
  exact ha
 ·have Yu:Nn lab el q=false:=by
   cases hc:Nn lab el q
   ·rfl
   ·obtain ⟨e1,e2⟩:=TN.1 hc
    exact absurd (by rw [e1,e2]) e
  have:ze l lab el=vE a:=by
   unfold ze at ha |-;rw [List.find?_append] at ha
   simpa [Yu] using ha
  obtain ⟨i,q',h3,h4,h5⟩:=ih this;exact ⟨i,q',by rw [SB (ru.1 (by simpa using (show l.toArray[i]?=vE q' by simpa using h3))).1];exact h3,h4,fun z=>by rw [atKey_put_other e];exact h5 z⟩
theorem zIE {l1 l2:List Nat} {k:Nat} (h:l1.take k=l2.take k) (h1:k<l1.length) (h2:k<l2.length) (e:l1.getD k 0=l2.getD k 0):l1.take (k+1)=l2.take (k+1):=by
 rw [wN l1 k h1,wN l2 k h2,h,e]
theorem zID {l1 l2:List Nat} {k:Nat} (e:l1.getD k 0≠l2.getD k 0):decide (l1=l2)=false:=db fun h=>e (by rw [h])
def Xg (w:vw) (cs:List vx) (l:List (List Nat)):Prop:=RSl 1 RWd w cs l
theorem zFe:Nz Xg:=Pg tD
theorem zKR {w w1:vw} {v:List vx} {l:List (List Nat)} (h:vA w.1.size w w1) (r:Xg w v l):Xg w1 v l:=zFe _ _ _ _ h r
theorem Yj {w:vw} {A:Option vy} {n c:Nat} {l:List (List Nat)} (h:Xg w [ve A n c] l):l.length=n /\ n <= c /\ c <= maxLen /\ RdL w 1 RWd A l:=by
 obtain ⟨A',n',c',he,h1,h2,h3,h4⟩:=h;simp at he
 obtain ⟨rfl,rfl,rfl⟩:=he;exact ⟨h1,h2,h3,h4⟩
theorem zI2 {w:vw} {A:Option vy} {l:List (List Nat)} (h:RdL w 1 RWd A l) (hl:0<l.length):∃ b q,A=vE ⟨b,q,vD⟩:=by
 obtain ⟨a,cs,e,h1,hc,-⟩:=h 0 hl;have h0:=hc 0 zO;rw [Qb zO] at h0;have hs:=World.cell?_spot h0;obtain ⟨b,q,s⟩:=a;cases s with
 | none=>exact ⟨b,q,e⟩
 | some x=>simp [Addr.add] at hs
theorem zv {w:vw} {A:Option vy} {l:List (List Nat)} (h:RdL w 1 RWd A l) {i:Nat} (hi:i<l.length) :
  ∃ b q A1 n1 c1,A=vE ⟨b,q,vD⟩ /\ b<w.1.size /\ w.cell? ⟨b,q+i,vD⟩=vE (ve A1 n1 c1) /\ RWd w [ve A1 n1 c1] l[i]:=by
 obtain ⟨a,cs,e,hl,hc,hr⟩:=h i hi;have Qt:=hr;obtain ⟨A1,n1,c1,rfl,-⟩:=Qt;obtain ⟨b,q,ha⟩:=zI2 h zO;rw [e] at ha;obtain rfl:=Ya ha;have h0:=hc 0 zO;have e0:(⟨b,q,vD⟩:vy).add (i*1+0)=⟨b,q+i,vD⟩:=by rw [zm];simp
 rw [e0] at h0;exact ⟨b,q,A1,n1,c1,e,Gf _ _ h0,h0,hr⟩
def sj (N:Nat) (gb:Option Nat) (w:vw) (v:vx) (l:List Nat):Prop:=∀ u:vw,(∀ b,N <= b -> b<w.1.size -> vE b≠gb -> u.1[b]?=w.1[b]?) -> RWd u [v] l
def Us (N:Nat) (w:vw) (v:vx) (cs:List vx) (l:List (List Nat)):Prop:=cs.length=l.length /\ ∀ (i:Nat) (h1:i<cs.length) (h2:i<l.length),sj N v.ownBlock w cs[i] l[i]
theorem O4 (N:Nat) (w:vw) (v:vx):Us N w v [] []:=⟨rfl,fun i h=>by simp at h⟩
theorem YD {N:Nat} {gb:Option Nat} {w w':vw} {v:vx} {l:List Nat} (h:sj N gb w v l) (hs:w.1.size <= w'.1.size) (hw:∀ b,N <= b -> b<w.1.size -> vE b≠gb -> w'.1[b]?=w.1[b]?):sj N gb w' v l :=
 fun u hu=>h u fun b h1 h2 h3=>(hu b h1 zO h3).trans (hw b h1 h2 h3)
theorem zEN {N:Nat} {w w':vw} {v:vx} {cs:List vx} {l:List (List Nat)} (h:Us N w v cs l) (hs:w.1.size <= w'.1.size) (hw:∀ b,N <= b -> b<w.1.size -> vE b≠v.ownBlock -> w'.1[b]?=w.1[b]?):Us N w' v cs l :=
 ⟨h.1,fun i h1 h2=>YD (h.2 i h1 h2) hs hw⟩
theorem yC {N:Nat} {w w':vw} {v:vx} {cs:List vx} {l:List (List Nat)} (h:Us N w v cs l) (hb:vA w.1.size w w'):Us N w' v cs l :=
 zEN h hb.size fun b _ h2 _=>hb.block b h2
theorem jX {N base n:Nat} {w:vw} {gb:Option Nat} {e:vz} {x:vx} {l:List Nat} (h:w.ownsRow base e 1 x n (Oa l)) (hl:∀ y∈l,y<18446744073709551616) (hN:N <= base) (hg:∀ q,gb=vE q -> q<base):sj N gb w x l:=by
 intro u hu;have ho:=own_agree' h fun b h1 h2=>hu b zO h2 fun e=>by have:=hg b e.symm;omega
 obtain ⟨A,c,rfl,-⟩:=Ud ho;exact Hq ho hl
where
 own_agree' {w u:vw} {base:Nat} {e:vz} {size:Nat} {v:vx} {n:Nat} {xs:List vx} (h:w.ownsRow base e size v n xs) (ha:∀ b,base <= b -> b<w.1.size -> u.1[b]?=w.1[b]?):u.ownsRow base e size v n xs:=by
  obtain ⟨h1,h2⟩:=h;refine ⟨h1,?_⟩;rcases h2 with h2 | ⟨g,cap,cur,hv,il,hh,r⟩
  ·exact Or.inl h2
  ·exact Or.inr ⟨g,cap,cur,hv,il,by rw [ha g il (ru.1 hh).1];exact hh,r⟩
theorem N4 {N:Nat} {w w':vw} {v v' x:vx} {cs:List vx} {l:List (List Nat)} {y:List Nat} (h:Us N w v cs l) (hx:sj N v.ownBlock w x y) (hg:w.grownBy w' v.ownBlock) (hv:v'.ownBlock=v.ownBlock \/ v'.ownBlock=vE w.1.size):Us N w' v' (cs++[x]) (l++[y]):=by
 have key:∀ {z:vx} {m:List Nat},sj N v.ownBlock w z m -> sj N v'.ownBlock w' z m:=fun {z m} hz u hu=>by
  refine hz u fun b h1 h2 h3=>?_
  refine (hu b h1 (zQ hg.size) ?_).trans (hg.block b h2 (fun e=>h3 e))
  rcases hv with e | e
  ·rw [e];exact h3
  ·rw [e];intro e2;have:=Ya e2;omega
 refine ⟨by simp [h.1],fun i h1 h2=>?_⟩
 by_cases hi:i<cs.length
 ·rw [zr hi,zr (zQ h.1)]
  exact key (h.2 i hi _)
 ·have e1:i=cs.length:=by simp at h1;omega
  have e2:(cs++[x])[i]=x:=by subst e1;simp
  have e3:(l++[y])[i]=y:=by
   have:i=l.length:=by rw [e1,h.1]
   subst this;simp
  rw [e2,e3];exact key hx
theorem BU {N base n:Nat} {w:vw} {e:vz} {v:vx} {cs:List vx} {l:List (List Nat)} (h:Us N w v cs l) (ho:w.ownsRow base e 1 v n cs):Xg w [v] l:=by
 obtain ⟨A,c,rfl,h1,h2,hr,-⟩:=Ud ho;have hn:cs.length=n:=by have:=ho.1;omega
 refine ⟨A,n,c,rfl,by rw [<- h.1,hn],h1,h2,fun i hi=>?_⟩
 have Si:i<cs.length:=by rw [h.1];exact hi
 obtain ⟨b,q,hA,hb,hc⟩:=pz hr zO;refine ⟨_,[cs[i]],hA,rfl,fun j hj=>?_,h.2 i Si hi w fun _ _ _ _=>rfl⟩
 obtain rfl:j=0:=by omega
 rw [zm,show q+(i*1+0)=q+i by omega,hc i zO,Qb Si]
 rfl
theorem zH1 (p:Nat) (pub vars:Int) (A:Option vy) (n c:Nat) (rows:List Ua) (bl bw qs:Int) (w:vw) (hr:RSl 3 je w [ve A n c] rows) (ht:Yc p pub vars rows=true) :
  vB prog 73 (Iq p pub vars A n c bl bw qs) w fun e w'=>WE ⟨p,pub,vars,rows.length,bl,bw,qs⟩ e /\ vA w.1.size w w':=by
 have bad:Zw ⟨p,pub,vars,rows.length,bl,bw,qs⟩=1 -> ∀ {e:Ending} {w':vw},(e=vl (.tuple #[vf qg,vd vq 1]) /\ vA w.1.size w w') -> WE ⟨p,pub,vars,rows.length,bl,bw,qs⟩ e /\ vA w.1.size w w':=fun he _ _ h=>⟨⟨_,_,h.1, .inl ⟨zD,rfl,he.symm⟩⟩,h.2⟩
 by_cases hB:bl<2 \/ 256<bl \/ bl.toNat &&& (bl.toNat-1)≠0 \/ qs<1 \/ 64<qs \/ (bw≠1 /\ bw≠2 /\ bw≠4 /\ bw≠8)
 ·exact (zH2 p pub vars A n c rows bl bw qs w hr ht hB).mono fun _ _=>bad (Ka hB)
 have h2:bl.toNat &&& (bl.toNat-1)=0:=oK fun e=>hB (.inr (.inr (.inl e)))
 have cG:0 <= pub /\ pub<vars:=by
  have h:=ht;unfold Yc at h;simp only [Vb,Gl,Nu] at h;omega
 obtain ⟨U,rfl⟩:=dk cG.1;obtain ⟨V,rfl⟩:=dk (show 0 <= vars by omega)
 obtain ⟨b,rfl⟩:=dk (show 0 <= bl by omega)
 obtain ⟨q,rfl⟩:=dk (show 0 <= qs by omega)
 rw [Rk] at h2;exact zH3 p U V A n c rows b q bw w hr ht zO zO h2 zO zO zO
theorem zF7 {x:NewIn} {e:Ending} (h:WE x e):∃ y0 y1 y2 y3 y4 y5 y6 y7 y8 y9 se er:Int,e=vl (.tuple #[vf #[vd vn y0,vd vq y1,vd vq y2,vd vq y3,vd vq y4,vd vq y5,vd vq y6,vd vq y7,vd vq y8,vd vq y9,vd vq se],vd vq er]) /\ (er=0 -> ∃ L,Nb L /\ Lj L x /\ #[vd vn y0,vd vq y1,vd vq y2,vd vq y3,vd vq y4,vd vq y5,vd vq y6,vd vq y7,vd vq y8,vd vq y9,vd vq se]=ib L):=by
 obtain ⟨lcs,er,he,h | h⟩:=h
 ·obtain ⟨h1,rfl,-⟩:=h
  exact ⟨_,_,_,_,_,_,_,_,_,_,_,er,he,fun h=>absurd h h1⟩
 ·obtain ⟨h1,L,h2,h3,rfl⟩:=h
  exact ⟨_,_,_,_,_,_,_,_,_,_,_,er,he,fun _=>⟨L,h2,h3,rfl⟩⟩
def XS (x:NewIn) (e:Ending):Prop:=∃ (y0 y1 y2 y3 y4 y5 y6 y7 y8 y9 se:Int) (b:Bool),e=vl (.tuple #[vf #[vd vn y0,vd vq y1,vd vq y2,vd vq y3,vd vq y4,vd vq y5,vd vq y6,vd vq y7,vd vq y8,vd vq y9,vd vq se], .bool b]) /\ (b=true -> ∃ L,Nb L /\ Lj L x /\ #[vd vn y0,vd vq y1,vd vq y2,vd vq y3,vd vq y4,vd vq y5,vd vq y6,vd vq y7,vd vq y8,vd vq y9,vd vq se]=ib L)
def VO (p:Nat) (pub vars:Int) (rows:vx) (bl bw qs:Int) (ws:vx):Array vx:=#[vd vn p,vd vq pub,vd vq vars,rows,vd vq bl,vd vq bw,vd vq qs,ws]
theorem Blk.cells' {w:vw} {g:Nat} {t:vz} {cs:Array vx} (h:Blk w g t cs):(∀ i,w.cell? ⟨g,i,vD⟩=cs[i]?) /\ (∀ i,w.frozen? ⟨g,i,vD⟩=false):=⟨h.cell,h.frozen⟩
theorem zH4 (lim:Int) (p:Nat) (pub vars:Int) (A B:Option vy) (n c m d:Nat) (rows:List Ua) (ws:List Nat) (bl bw qs:Int) (w:vw) (hr:RSl 3 je w [ve A n c] rows) (hw:RWd w [ve B m d] ws) (hp:p<18446744073709551616) :
  vB prog 50 #[vf (VO p pub vars (ve A n c) bl bw qs (ve B m d)),vd vq lim] w fun e w'=>(XS ⟨p,pub,vars,rows.length,bl,bw,qs⟩ e /\ (∀ v,e=vl (.tuple #[v, .bool true]) -> Yc p pub vars rows=true /\ yi p vars ws=true /\ PH rows /\ (rows.length:Int) <= lim)) /\ vA w.1.size w w':=by
 have HV:=zH (fun w' (hb:vA w.1.size w w')=>VN p pub vars A n c rows w' (Pg Og _ _ _ _ hb hr) hp)
 have HA:=zH (fun w' (hb:vA w.1.size w w')=>MW p pub vars (ve A n c) B m d ws w' (Ab hb hw) hp)
 have HS:=zH (fun w' (hb:vA w.1.size w w')=>zH7 p pub vars A n c rows w' (Pg Og _ _ _ _ hb hr))
 have HN:=zH (fun ht w' (hb:vA w.1.size w w')=>zH1 p pub vars A n c rows bl bw qs w' (Pg Og _ _ _ _ hb hr) ht)
 obtain ⟨A',n',c',he,hlen,Sd,Ze,-⟩:=hr;simp at he
 obtain ⟨rfl,rfl,rfl⟩:=he;subst hlen;have gm:(rows.length:Int) <= 9223372036854775807:=by
  simp [maxLen] at Ze
  omega
 unfold VO;have da:vA w.1.size w ((w.alloc (.cells #[vd vn p,vd vq pub,vd vq vars,ve A rows.length c,vd vq bl,vd vq bw,vd vq qs,ve B m d] 30)).alloc (.cells #[vd vn 0,vd vq 0,vd vq 0,vd vq 0,vd vq 0,vd vq 0,vd vq 0,vd vq 0,vd vq 0,vd vq 0,vd vq 0] 35)):=((tb _ w).alloc zR _).alloc zS _;by_cases z1:lim<(rows.length:Int)
 ·have d1:decide (lim<(rows.length:Int))=true:=xb z1
  go_enter func50,ntmps50
  go_wp2_with fail
  refine Sc (v:=.tuple #[vf #[vd vn 0,vd vq 0,vd vq 0,vd vq 0,vd vq 0,vd vq 0,vd vq 0,vd vq 0,vd vq 0,vd vq 0,vd vq 0], .bool false]) (by simp [results,results50,go_sem]) rfl ⟨⟨⟨_,_,_,_,_,_,_,_,_,_,_,_,rfl,fun h=>by cases h⟩,fun v h=>by simp at h⟩,da⟩
 ·have d1:decide (lim<(rows.length:Int))=false:=db z1
  have FH:=zH (show (rows.length:Int) <= lim by omega)
  clear z1;go_enter func50,ntmps50
  go_wp2_with fail
  refine (HS.out _ da).mono ?_;rintro e w1 ⟨⟨b1,rfl,Zu⟩,hb⟩;have HSM:=zH Zu;clear Zu;obtain ⟨k3,k4,Ib⟩:=bH hb;obtain ⟨c3,f3⟩:=k3.cells';obtain ⟨c4,f4⟩:=k4.cells';clear hb;cases b1
  ·go_wp2_with fail
   obtain ⟨wf,Ub,kW,hW⟩:=eu k4 Ib;rw [Ub];clear Ub;have tp:=kW.cell;exact Sc (v:=.tuple #[vf #[vd vn 0,vd vq 0,vd vq 0,vd vq 0,vd vq 0,vd vq 0,vd vq 0,vd vq 0,vd vq 0,vd vq 0,vd vq 0], .bool false]) (by simp [results,results50,go_sem,tp]) rfl ⟨⟨⟨_,_,_,_,_,_,_,_,_,_,_,_,rfl,fun h=>by cases h⟩,fun v h=>by simp at h⟩,hW⟩
  go_wp2_with fail
  refine (HV.out _ Ib).mono ?_;rintro e w2 ⟨rfl,Ba⟩;cases ht:Yc p pub vars rows
  ·replace k4:=ia k4 Ba
   replace Ib:=ma Ib Ba;clear c3 f3 c4 f4;obtain ⟨c4,f4⟩:=k4.cells';go_wp2_with fail
   obtain ⟨wf,Ub,kW,hW⟩:=eu k4 Ib;rw [Ub];clear Ub;have tp:=kW.cell;exact Sc (v:=.tuple #[vf #[vd vn 0,vd vq 0,vd vq 0,vd vq 0,vd vq 0,vd vq 0,vd vq 0,vd vq 0,vd vq 0,vd vq 0,vd vq 0], .bool false]) (by simp [results,results50,go_sem,tp]) rfl ⟨⟨⟨_,_,_,_,_,_,_,_,_,_,_,_,rfl,fun h=>by cases h⟩,fun v h=>by simp at h⟩,hW⟩
  replace k3:=ia k3 Ba;replace k4:=ia k4 Ba;replace Ib:=ma Ib Ba;clear c3 f3 c4 f4 Ba;obtain ⟨c3,f3⟩:=k3.cells';obtain ⟨c4,f4⟩:=k4.cells';have HT:=zH ht;clear ht;go_wp2_with fail
  refine (HA.out _ Ib).mono ?_;rintro e w3 ⟨rfl,Ta⟩;cases ha:yi p vars ws
  ·replace k4:=ia k4 Ta
   replace Ib:=ma Ib Ta;clear c3 f3 c4 f4;obtain ⟨c4,f4⟩:=k4.cells';go_wp2_with fail
   obtain ⟨wf,Ub,kW,hW⟩:=eu k4 Ib;rw [Ub];clear Ub;have tp:=kW.cell;exact Sc (v:=.tuple #[vf #[vd vn 0,vd vq 0,vd vq 0,vd vq 0,vd vq 0,vd vq 0,vd vq 0,vd vq 0,vd vq 0,vd vq 0,vd vq 0], .bool false]) (by simp [results,results50,go_sem,tp]) rfl ⟨⟨⟨_,_,_,_,_,_,_,_,_,_,_,_,rfl,fun h=>by cases h⟩,fun v h=>by simp at h⟩,hW⟩
  replace k3:=ia k3 Ta;replace k4:=ia k4 Ta;replace Ib:=ma Ib Ta;clear c3 f3 c4 f4 Ta;obtain ⟨c3,f3⟩:=k3.cells';obtain ⟨c4,f4⟩:=k4.cells';have HAs:=zH ha;clear ha;go_wp2_with fail
  refine (HN.out HT.out _ Ib).mono ?_;rintro e w4 ⟨cL,Db⟩;obtain ⟨y0,y1,y2,y3,y4,y5,y6,y7,y8,y9,se,er,rfl,hL⟩:=zF7 cL;have HL:=zH hL;clear hL cL;replace k4:=ia k4 Db;replace Ib:=ma Ib Db;clear c3 f3 c4 f4 Db k3;obtain ⟨c4,f4⟩:=k4.cells';have l4:=k4.lt;by_cases h0:er=0
  ·have HE:=zH (show XS ⟨p,pub,vars,rows.length,bl,bw,qs⟩ (vl (.tuple #[vf #[vd vn y0,vd vq y1,vd vq y2,vd vq y3,vd vq y4,vd vq y5,vd vq y6,vd vq y7,vd vq y8,vd vq y9,vd vq se], .bool true])) from ⟨_,_,_,_,_,_,_,_,_,_,_,_,rfl,fun _=>HL.out h0⟩)
   clear HL;subst h0;go_wp2_with fail
   obtain ⟨wf,Ub,wJ,By⟩:=aE k4 Ib y0 y1 y2 y3 y4 y5 y6 y7 y8 y9 se;rw [Ub];clear Ub;have kW:=wJ.alloc (.cells #[vd vn y0,vd vq y1,vd vq y2,vd vq y3,vd vq y4,vd vq y5,vd vq y6,vd vq y7,vd vq y8,vd vq y9,vd vq se] 35);have hW:=By.alloc By.size (.cells #[vd vn y0,vd vq y1,vd vq y2,vd vq y3,vd vq y4,vd vq y5,vd vq y6,vd vq y7,vd vq y8,vd vq y9,vd vq se] 35);have tp:=kW.cell;exact Sc (v:=.tuple #[vf #[vd vn y0,vd vq y1,vd vq y2,vd vq y3,vd vq y4,vd vq y5,vd vq y6,vd vq y7,vd vq y8,vd vq y9,vd vq se], .bool true]) (by simp [results,results50,go_sem,tp]) rfl ⟨⟨HE.out,fun _ _=>⟨HT.out,HAs.out,HSM.out (by first | trivial | rfl),FH.out⟩⟩,hW⟩
  ·have HE:=zH (show XS ⟨p,pub,vars,rows.length,bl,bw,qs⟩ (vl (.tuple #[vf #[vd vn y0,vd vq y1,vd vq y2,vd vq y3,vd vq y4,vd vq y5,vd vq y6,vd vq y7,vd vq y8,vd vq y9,vd vq se], .bool false])) from ⟨_,_,_,_,_,_,_,_,_,_,_,_,rfl,fun h=>by cases h⟩)
   clear HL;have g0:(er == 0)=false:=by rw [Gd];exact h0
   go_wp2_with fail
   obtain ⟨wf,Ub,wJ,By⟩:=aE k4 Ib y0 y1 y2 y3 y4 y5 y6 y7 y8 y9 se;rw [Ub];clear Ub;have kW:=wJ.alloc (.cells #[vd vn y0,vd vq y1,vd vq y2,vd vq y3,vd vq y4,vd vq y5,vd vq y6,vd vq y7,vd vq y8,vd vq y9,vd vq se] 35);have hW:=By.alloc By.size (.cells #[vd vn y0,vd vq y1,vd vq y2,vd vq y3,vd vq y4,vd vq y5,vd vq y6,vd vq y7,vd vq y8,vd vq y9,vd vq se] 35);have tp:=kW.cell;exact Sc (v:=.tuple #[vf #[vd vn y0,vd vq y1,vd vq y2,vd vq y3,vd vq y4,vd vq y5,vd vq y6,vd vq y7,vd vq y8,vd vq y9,vd vq se], .bool false]) (by simp [results,results50,go_sem,tp]) rfl ⟨⟨HE.out,fun v h=>by simp at h⟩,hW⟩
theorem zIQ {g:Nat} (w:vw) (x0 x1 x2 x3 x4 x5 x6 x7 x8 x9 Qo:vx) :
  Vk g w (((((((((((w.setCell ⟨g,0,vD⟩ x0).setCell ⟨g,1,vD⟩ x1).setCell ⟨g,2,vD⟩ x2).setCell ⟨g,3,vD⟩ x3).setCell ⟨g,4,vD⟩ x4).setCell ⟨g,5,vD⟩ x5).setCell ⟨g,6,vD⟩ x6).setCell ⟨g,7,vD⟩ x7).setCell ⟨g,8,vD⟩ x8).setCell ⟨g,9,vD⟩ x9).setCell ⟨g,10,vD⟩ Qo):=by
 unfold Vk
 iterate 11 refine mh ?_ (.inl rfl) _
 exact Ce w _
theorem zAt (y0 y1 y2 y3 y4 y5 y6:Int) (a b c d:Nat) (w:vw) (ha:a <= 100000) (hb:b <= 100000) (hc:c <= 100000) (hd:d <= 100000) :
  vB prog 21 #[vf #[vd vn y0,vd vq y1,vd vq y2,vd vq y3,vd vq y4,vd vq y5,vd vq y6,vd vq a,vd vq b,vd vq c,vd vq d]] w fun e w'=>e=vl (vd vq ((a+b+c+d:Nat):Int)) /\ vA w.1.size w w':=by
 have i1:(a:Int) <= 100000:=by omega
 have i2:(b:Int) <= 100000:=by omega
 have i3:(c:Int) <= 100000:=by omega
 have i4:(d:Int) <= 100000:=by omega
 go_enter func21,ntmps21
 go_wp2_with fail
 go_ret
 exact ⟨zS,(tb _ _).alloc zR _⟩
theorem GG (y0 y1 y2 y3 y4 y5 y6:Int) (a b c d:Nat) (w:vw) (ha:a <= 100000) (hb:b <= 100000) (hc:c <= 100000) (hd:d <= 100000) :
  vB prog 119 #[vf #[vd vn y0,vd vq y1,vd vq y2,vd vq y3,vd vq y4,vd vq y5,vd vq y6,vd vq a,vd vq b,vd vq c,vd vq d]] w fun e w'=>e=vl (vd vq ((a+b+c+d:Nat):Int)) /\ vA w.1.size w w':=by
 have i1:(a:Int) <= 100000:=by omega
 have i2:(b:Int) <= 100000:=by omega
 have i3:(c:Int) <= 100000:=by omega
 have i4:(d:Int) <= 100000:=by omega
 go_enter func119,ntmps119
 go_wp2_with fail
 go_ret
 exact ⟨zS,(tb _ _).alloc zR _⟩
def Fx (B:Nat) (w w':vw):Prop:=vA B w w'
theorem Be (B:Nat):Pd (Fx B):=⟨fun w=>tb _ w,fun _ _ _ h k=>Below.trans h k⟩
theorem wU {B:Nat} {w w':vw} (h:Fx B w.drew w'):∀ b o,b<B -> w'.cell? ⟨b,o,vD⟩=w.cell? ⟨b,o,vD⟩:=fun b o hb=>Below.cell h (p:=⟨b,o,vD⟩) hb
theorem ou {a b:Prop} (h:a) (s:Imp a b:=by
 (repeat ((first | (apply Imp.via (xE (Be _) rfl rfl (fun _ _ _ h=>h))) | (apply Imp.via (uE (v:=?_) (Be _) rfl rfl (fun _ _ _ h=>h) ?hr);case hr=>(intro w' hR;(first | have qn:=wU ((Be _).trans _ _ _ ea hR) | skip);go_simp;try with_reducible rfl)));simp only [vG,zLa,zLb,zLc]))
 exact Imp.rfl'):b:=s h
theorem dw {B:Nat} {w w':vw} (h:vA w.1.size w w') (hB:B <= w.1.size):Fx B w w':=h.mono hB
theorem qF {B:Nat} (w:vw) {g i:Nat} (v:vx) (hg:B <= g):Fx B w (w.setCell ⟨g,i,vD⟩ v):=(tb B w).setCell (p:=⟨g,i,vD⟩) hg v
def okL (l:List Oper):List Nat -> Array Bool -> Bool
 | [],_=>true
 | i :: rest,Aa=>decide (i<l.length)&&Region.free .any l.toArray Aa i&&(Region.ready .any l.toArray Aa).contains i&&okL l rest (Aa.setIfInBounds i true)
def gH (P:Program) (l:List Oper) (Q:Exit -> Act -> vw -> Prop) (R:vw -> vw -> Prop) (order:List Nat) (fuel:Nat) (Aa:Array Bool) (a:Act) (w:vw):Prop :=
 Region.noSelect l.toArray=true -> okL l order Aa=true -> Tn P l.toArray Q R (order.length+fuel) Aa a w
section
variable {P:Program} {l:List Oper} {Q:Exit -> Act -> vw -> Prop} {R:vw -> vw -> Prop} {rest:List Nat} {fuel i:Nat} {o:Oper} {Aa:Array Bool} {a:Act} {w:vw}
theorem zB4 {id:Nat} (R:vw -> vw -> Prop) (order:List Nat) (fuel:Nat) (hm:P.follows .mixedOrders=true) (Xa:(Region.noSelect l.toArray&&order.length+fuel == l.length&&okL l order (List.replicate l.length false).toArray)=true)
  (h:gH P l Q R order fuel (List.replicate l.length false).toArray a w.drew):(Code.region id l.toArray true).wp P Q a w:=by
 simp only [Vb,Dh] at Xa;refine lO R hm ?_;rw [<- Xa.1.2];have:=h Xa.1.1 Xa.2
 rwa [Xa.1.2] at this |-
theorem zB8 (M:Pd R) {order:List Nat} (h:∀ W,Hid (W=w) -> R w W -> gH P l Q R order fuel Aa a W):gH P l Q R order fuel Aa a w:=h w rfl (M.refl w)
theorem F8 (h:okL l (i :: rest) Aa=true):i<l.length /\ Region.free .any l.toArray Aa i=true /\ (Region.ready .any l.toArray Aa).contains i=true /\ okL l rest (Aa.setIfInBounds i true)=true:=by
 unfold okL at h;simp only [Vb,yo] at h;obtain ⟨⟨⟨h1,h2⟩,h3⟩,h4⟩:=h;exact ⟨h1,h2,h3,h4⟩
theorem zB5 {v:vx} (M:Pd R) (ho:l[i]?=vE o) (hw:Region.wanted o (yielded l.toArray a.tmps)=true) (hQ:∀ c a w,Q (.panic c) (a.put o.dst v) w -> Q (.panic c) a w)
  (Tc:∀ w',R w w' -> (execOp a.eval o).run P w'= .ok (.value v) w') (h:gH P l Q R rest fuel (Aa.setIfInBounds i true) (a.put o.dst v) w):gH P l Q R (i :: rest) fuel Aa a w:=by
 intro hn Xa;obtain ⟨h1,h2,h3,h5⟩:=F8 Xa;have e:=xC (h:=h1) ho;subst e;have:=Qm (fuel:=rest.length+fuel) i M h1 hn h2 h3 hQ (.inl ⟨hw,Tc⟩) (h hn h5);rw [Jg,show rest.length+1+fuel=rest.length+fuel+1 by omega]
 exact this
theorem zB7 (M:Pd R) (ho:l[i]?=vE o) (hw:Region.wanted o (yielded l.toArray a.tmps)=false) (hQ:∀ c a w,Q (.panic c) (a.put o.dst undef) w -> Q (.panic c) a w)
  (h:gH P l Q R rest fuel (Aa.setIfInBounds i true) (a.put o.dst undef) w):gH P l Q R (i :: rest) fuel Aa a w:=by
 intro hn Xa;obtain ⟨h1,h2,h3,h5⟩:=F8 Xa;have e:=xC (h:=h1) ho;subst e;have:=Qm (fuel:=rest.length+fuel) i M h1 hn h2 h3 hQ (.inr ⟨hw,rfl⟩) (h hn h5);rw [Jg,show rest.length+1+fuel=rest.length+fuel+1 by omega]
 exact this
end
def ki (a:Act) (vs:Nat -> vx) (js:List (Option Tmp × Nat)):Act:=js.foldl (fun a j=>a.put j.1 (vs j.2)) a
theorem vR (l:List Oper) (vs:Nat -> vx):∀ (js:List Nat) (a:Act),ug l vs a js=ki a vs (js.map fun j=>(Yd l j,j))
 | [],_=>rfl
 | _ :: js,_=>vR l vs js _
section
variable {P:Program} {l:List Oper} {Q:Exit -> Act -> vw -> Prop} {R:vw -> vw -> Prop} {T:List so} {ps:List (Nat × Dx)} {B:Nat} {w0:vw} {a0:Act} {L0:Array Bool}
abbrev NH:Nat -> Prop:=fun _=>False
theorem rP {B:Nat} {w w':vw}:Sq B NH w w'↔vA B w w':=⟨fun h=>⟨h.1,h.2.1,h.2.2.1,h.2.2.2.1,fun b hb=>h.2.2.2.2 b hb id⟩,fun h=>⟨h.os,h.tape,h.output,h.size,fun b hb _=>h.block b hb⟩⟩
def Vn (w w':vw) (F:Nat -> Nat -> Prop) (eat:List Nat):Nat -> Prop:=fun b=>(w.1.size <= b /\ b<w'.1.size) \/ ∃ j∈eat,F j b
def xm (B:Nat) (w w':vw) (F:Nat -> Nat -> Prop) (eat:List Nat):Prop:=vA B w w' /\ ∀ b,b<w.1.size -> (∀ j∈eat,¬F j b) -> w'.1[b]?=w.1[b]?
theorem YV (B:Nat) (w:vw) (F:Nat -> Nat -> Prop) (eat:List Nat):xm B w w F eat:=⟨tb _ _,fun _ _ _=>rfl⟩
theorem GD {B:Nat} {w w':vw} (h:vA w.1.size w w') (hB:B <= w.1.size) (F:Nat -> Nat -> Prop) (eat:List Nat):xm B w w' F eat:=⟨h.mono hB,fun b hb _=>h.block b hb⟩
theorem TQ {B g:Nat} {w w':vw} {F:Nat -> Nat -> Prop} {eat:List Nat} (h:w.grownBy w' (vE g)) (hg:B <= g) (hB:B <= w.1.size) {j:Nat} (hj:j∈eat) (hF:F j g):xm B w w' F eat :=
 ⟨Er h hB hg,fun b hb hn=>h.block b hb fun e=>hn j hj (by rw [Ya e];exact hF)⟩
theorem zB6 (M:Pd R) (T:List so) (ps:List (Nat × Dx)) (js:List (Option Tmp × Nat)) (hs tail:List Nat) {fuel:Nat} (hn:Region.noSelect l.toArray=true)
  (Xa:(dR l T L0&&(T.all fun s=>decide (s.i<l.length))&&decide (T.length+tail.length=fuel)&&LD l hs tail (Qv T L0)&&(((T.map (·.i)).map fun j=>(Yd l j,j)) == js))=true)
  (hB:B <= w0.1.size) (hR:∀ w',vA B w0 w' -> R w0 w') (kd:∀ s∈T,uK (TJ ps) B NH w0 s) (pN:∀ s∈T,GO P l (TJ ps) B NH w0 a0 s)
  (Bo:∀ (w:vw) (vs:Nat -> vx) (F:Nat -> Nat -> Prop),vA B w0 w -> (∀ s∈T,(∀ k∈T,s.i ∉ k.eat) -> TJ ps s.i vs (F s.i) w /\ ∀ b,F s.i b -> b<w.1.size /\ B <= b) -> (∀ j k b,j≠k -> F j b -> ¬F k b) ->
   Po P l hs Q R tail (Qv T L0) (ki a0 vs js) w):gH P l Q R [] fuel L0 a0 w0:=by
 intro _ _;simp only [Vb,Dh,yo] at Xa;obtain ⟨⟨⟨⟨h1,h2⟩,h3⟩,h4⟩,h5⟩:=Xa;rw [fe] at h2;have ok:=G8 h1;have ta:∀ s∈T,s.i<l.length:=fun s hs=>by simpa using h2 s hs
 have Gh:∀ s∈T,L0.getD s.i true=false:=fun s hs=>(PJ _ _ ok.topo _ (Od.2 ⟨s,hs,rfl⟩) _ (Qb (ta s hs))).2
 rw [List.length_nil,Nj];refine zJY (X:=NH) (fr:=tail.length) M hn h1 hB (fun w' h=>hR w' (rP.1 h)) (fun _=>undef) (fun _=>l.length) (fun _ _=>zR) (fun s hs h=>absurd (ta s hs) (Nat.not_lt.2 h)) kd pN ?_ fun w vs F he hf hd=>?_
 ·rw [List.filter_eq_self.2 fun s hs=>by rw [Gh s hs];rfl]
  exact h3
 ·have e:(T.map (·.i)).filter (·<l.length)=T.map (·.i):=List.filter_eq_self.2 fun j hj=>by
   obtain ⟨s,hs,rfl⟩:=Od.1 hj
   simpa using ta s hs
  rw [e,vR,h5];exact Bo w vs F (rP.1 he) (fun s hs Sa=>⟨(hf s hs Sa).1,fun b hb=>⟨((hf s hs Sa).2 b hb).1,((hf s hs Sa).2 b hb).2.resolve_right id⟩⟩) hd hn h4
theorem Qq {s:so} {o:Oper} (js:List (Option Tmp × Nat)) (ho:l[s.i]?=vE o) (hjs:((s.deps.filter (·<l.length)).map fun j=>(Yd l j,j))=js)
  (h:∀ (w:vw) (vs:Nat -> vx) (F:Nat -> Nat -> Prop),vA B w0 w -> (∀ j∈s.deps,TJ ps j vs (F j) w /\ ∀ b,F j b -> b<w.1.size /\ B <= b) -> (∀ j k b,j≠k -> F j b -> ¬F k b) ->
   Yi P (execOp (ki a0 vs js).eval o) w fun v w'=>xm B w w' F s.eat /\ TJ ps s.i (oh vs s.i v) (Vn w w' F s.eat) w'):GO P l (TJ ps) B NH w0 a0 s:=by
 intro o' ho' w vs F he hd Lf;rw [ho] at ho';obtain rfl:=Ya ho';rw [vR,hjs];refine ZZ ?_ (h w vs F (rP.1 he) (fun j hj=>⟨(hd j hj).1,fun b hb=>⟨((hd j hj).2 b hb).1,((hd j hj).2 b hb).2.resolve_right id⟩⟩) Lf)
 rintro v w' ⟨h1,h2⟩;exact ⟨rP.2 h1.1,h1.2,h2⟩
end
def mq (f:(Nat -> vx) -> vx) (i:Nat):Dx:=fun vs _ _=>vs i=f vs
def Ge (t:vz) (cs:(Nat -> vx) -> Array vx) (mk:Nat -> vx) (i:Nat):Dx:=fun vs F w=>∃ g,vs i=mk g /\ F g /\ Blk w g t (cs vs)
abbrev Ed (n:Nat):Nat -> vx:=fun g=>ve (vE ⟨g,0,vD⟩) n n
abbrev mkP:Nat -> vx:=fun g=>.pointer (vE ⟨g,0,vD⟩)
section
variable {p:Nat -> Dx} {B:Nat} {X:Nat -> Prop} {w0:vw} {s:so}
theorem UR {f:(Nat -> vx) -> vx} (hp:p s.i=mq f s.i) (hf:∀ vs us:Nat -> vx,(∀ m∈s.deps,us m=vs m) -> f us=f vs):uK p B X w0 s:=by
 intro vs us F w w' _ _ h _ _ hv;rw [hp] at hv |-;unfold mq at *;rw [h _ zS,hv,hf vs us fun m hm=>h m (by simp [hm])]
theorem xx {t:vz} {cs:(Nat -> vx) -> Array vx} {mk:Nat -> vx} (hp:p s.i=Ge t cs mk s.i) (hf:∀ vs us:Nat -> vx,(∀ m∈s.deps,us m=vs m) -> cs us=cs vs):uK p B X w0 s:=by
 intro vs us F w w' _ _ h _ hk hv;rw [hp] at hv |-;obtain ⟨g,h1,h2,h3⟩:=hv;exact ⟨g,by rw [h _ zS,h1],h2,by rw [hf vs us fun m hm=>h m (by simp [hm])];exact (hk g h2).trans h3⟩
theorem Rv {w w':vw} {t:vz} {cs:(Nat -> vx) -> Array vx} {mk:Nat -> vx} {F:Nat -> Nat -> Prop} {eat:List Nat} {vs:Nat -> vx} {i g:Nat} (h:Blk w' g t (cs (oh vs i (mk g)))) (hg:w.1.size <= g):Ge t cs mk i (oh vs i (mk g)) (Vn w w' F eat) w' :=
 ⟨g,zBF _ _ _, .inl ⟨hg,h.lt⟩,h⟩
end
def FRows (N:Nat) (gb:Option Nat) (w:vw) (cs:Array vx) (i:Nat) (f:Nat -> List Nat):Prop:=∀ k,k<i -> ∃ v,cs[k]?=vE v /\ sj N gb w v (f k)
theorem xU {N n g:Nat} {gb:Option Nat} {w:vw} {t:vz} {cs:Array vx} {f:Nat -> List Nat} (h:FRows N gb w cs n f) (hk:Blk w g t cs) (hm:n <= maxLen):Xg w [ve (vE ⟨g,0,vD⟩) n n] ((List.range n).map f):=by
 refine ⟨_,n,n,rfl,zS,zR,hm,fun i hi=>?_⟩
 have Si:i<n:=by simpa using hi
 obtain ⟨v,h1,h2⟩:=h i Si;refine ⟨_,[v],rfl,rfl,fun j hj=>?_,by simpa using h2 w fun _ _ _ _=>rfl⟩
 obtain rfl:j=0:=by omega
 rw [zm,show 0+(i*1+0)=i by omega,hk.cell,h1]
 rfl
theorem zIA {N g:Nat} {gb:Option Nat} {w:vw} {t:vz} {l:List Nat} (h:Blk w g t (Oa l).toArray) (hl:∀ x∈l,x<18446744073709551616) (hm:l.length <= maxLen) (hN:N <= g) (hg:vE g≠gb):sj N gb w (ve (vE ⟨g,0,vD⟩) l.length l.length) l :=
 fun _ hu=>GJ (t:=t) ((hu g hN h.lt hg).trans h) hl hm
theorem IJ {w:vw} {g n:Nat} {t:vz} {l:List Nat} (h:Blk w g t (Oa l).toArray) (hn:l.length=n) (hl:∀ x∈l,x<18446744073709551616) (hm:n <= maxLen):RWd w [ve (vE ⟨g,0,vD⟩) n n] l:=by
 subst hn;exact GJ h hl hm
theorem iX {N g n:Nat} {gb:Option Nat} {w:vw} {t:vz} {l:List Nat} (h:Blk w g t (Oa l).toArray) (hn:l.length=n) (hl:∀ x∈l,x<18446744073709551616) (hm:n <= maxLen) (hN:N <= g) (hg:vE g≠gb):sj N gb w (ve (vE ⟨g,0,vD⟩) n n) l:=by
 subst hn;exact zIA h hl hm hN hg
structure Tk (p n:Nat):Prop where
 pos:1 <= n
 le:n <= 4096
 two:∃ j,n=2^j
 dvd:(p-1)%n=0
def Ee (p n:Nat):Nat:=(Mb p).1^((p-1) / n)%p
theorem zCB:∀ j:Fin 13,bits .and vq ((2^j.val:Nat):Int) (((2^j.val:Nat):Int)-1)=0:=by decide +kernel
theorem BW {j:Nat} (h:2^j <= 4096):j<13:=by
 rcases Wg j 13 with h1 | h1
 ·exact h1
 ·have:2^13 <= 2^j:=bn zO h1
  omega
theorem zHA:∀ b:Fin 257,1 <= b.val -> b.val &&& (b.val-1)=0 -> ∃ j:Fin 9,b.val=2^j.val:=by decide +kernel
theorem gen_lt {p:Nat} (h:Jb p=true):(Mb p).1<p:=by
 rcases cu h with rfl | rfl | rfl | rfl | rfl | rfl | rfl <;> decide
theorem zEa (p n:Nat) (w:vw) (hp:Jb p=true) (hn:Tk p n) :
  vB prog 280 #[fv p,vd vq n] w fun e w'=>e=vl (.tuple #[vd vn (Ee p n:Int), .bool true]) /\ vA w.1.size w w':=by
 obtain ⟨h1,h2,h3,h4⟩:=hn;obtain ⟨zf,Kd⟩:=Rb hp;have HV:=zH (fun w=>zp p w hp)
 have HG:=zH (fun w=>lU p w hp)
 have hand:bits .and vq (n:Int) ((n:Int)-1)=0:=by
  obtain ⟨j,hj⟩:=h3;have:=zCB ⟨j,BW zO⟩;simp only at this;rw [<- hj] at this;exact this
 obtain ⟨pm,ss⟩:=zEX (p-1);obtain ⟨m,hm⟩:=zEX (pm / n);have HP:=zH (fun w=>sU p (Mb p).1 m w hp (gen_lt hp) (by rw [hm];exact Nat.lt_of_le_of_lt (Rz _ _) zO))
 have hR:Ee p n=(Mb p).1^m%p:=by unfold Ee;rw [hm,ss]
 rw [hR];have ep:vn.wrap ((p:Int)-1)=(pm:Int):=by rw [ss];exact Az p 1 zO Kd
 have ep2:(p:Int)-1=(pm:Int):=by omega
 have ep3:vn.wrap (pm:Int)=pm:=Fl _ zO;have en:vn.wrap (n:Int)=n:=Fl _ zO;have em:vn.wrap (m:Int)=m:=Fl _ (by rw [hm];exact Nat.lt_of_le_of_lt (Rz _ _) zO)
 have r1:(pm:Int)%(n:Int)=0:=by rw [ss];omega
 have r2:(pm:Int).tmod (n:Int)=0:=by rw [Int.tmod_eq_emod_of_nonneg zO];exact r1
 have r3:(pm:Int) / (n:Int)=m:=by rw [hm];rfl
 have r4:(pm:Int).tdiv (n:Int)=m:=by rw [hm];rfl
 have n0:¬((n:Int)=0):=by omega
 have n5:¬(n=0):=by omega
 have n1:(1:Int)<=n:=by omega
 have n2:((n:Int) == 0)=false:=by rw [Gd];exact n0
 have n3:(0:Int)<n:=by omega
 have n4:(n:Int) <= 4096:=by omega
 clear hR hm zf Kd h1 h2 h3 h4 hp;generalize (Mb p).1=gn at *;generalize gn^m%p=r at *;unfold fv at *;obtain ⟨kf,da⟩:=zN w 224 #[vd vn p];clear ss;go_enter func280,ntmps280
 go_wp2_with fail
 refine (HV.out _).mono ?_;rintro e' w1 ⟨rfl,Ia⟩;replace kf:=ia kf Ia;replace da:=ma da Ia;clear Ia;have cf:=kf.cell;have lf:=kf.lt;go_wp2_with fail
 refine kh (Wb) (oa) [] [] [0,1,2,3,4,5,6,7,8,9,10,11] zK zK ?_;refine lh (oa) ?_;intro Wc ea;refine Me ?_;refine Nd oa rfl rfl rfl rfl (fun w' hR=>HG.out _) ?_
 refine zPU ?_;refine Me ?_;refine Nd oa rfl rfl rfl rfl (fun w' hR=>HP.out _) ?_
 refine zPU ?_;refine Me ?_;refine Qs rfl ?_;intro wd me;replace ea:=zM oa ea me;clear me;go_wp2
 go_ret2
 exact ⟨rfl,ma da.drew ea⟩
theorem cS (p n:Nat) (w:vw) (hp:Jb p=true) (hn:Tk p n) :
  vB prog 220 #[fv p,vd vq n] w fun e w'=>e=vl (.tuple #[vd vn (Ee p n:Int), .bool true]) /\ vA w.1.size w w':=by
 have HR:=zH (fun w=>zEa p n w hp hn)
 have d1:decide ((n:Int)<1)=false:=db (zQ hn.pos);have d2:decide ((4096:Int)<n)=false:=db (zQ hn.le);clear hn hp;generalize Ee p n=r at *;unfold fv at *;have da:=zA w (.cells #[vd vn p] 224);go_enter func220,ntmps220
 go_wp2_with fail
 refine (HR.out _).mono ?_;rintro e' w1 ⟨rfl,Ia⟩;go_wp2
 go_ret2
 exact ⟨rfl,ma da Ia⟩
def ni (F G:Nat -> Nat) (i:Nat):Nat -> Nat:=fun k=>if k<i then F k else G k
theorem jK (n:Nat) (F G:Nat -> Nat):Qa n (ni F G 0)=Qa n G:=Ol fun k _=>by simp [ni]
theorem OL (n:Nat) (F G:Nat -> Nat):Qa n (ni F G n)=Qa n F:=Ol fun k hk=>by simp [ni,hk]
theorem nE {n i:Nat} (F G:Nat -> Nat) (h:i<n):(Qa n (ni F G i))[i]?=vE (vd vn (G i:Int)):=by rw [Uf _ h];simp [ni]
theorem oE {n i v:Nat} {F G:Nat -> Nat} (h:v=F i):(Qa n (ni F G i)).setIfInBounds i (vd vn v)=Qa n (ni F G (i+1)):=by
 rw [Lr];refine Ol fun k _=>?_
 simp only [Cf,ni];by_cases e:k=i
 ·subst e;rw [Ka rfl,Ka zO,h]
 ·rw [ya e]
  by_cases h2:k<i
  ·rw [Ka h2,Ka zO]
  ·rw [ya h2,ya zO]
theorem Zj {w:vw} (g i:Nat) (v:vx):w.grownBy (w.setCell ⟨g,i,vD⟩ v) (vE g):=mh (p:=⟨g,i,vD⟩) (Ce w _) (.inl rfl) _
def YJ (p:Nat) (l:List Nat) (i:Nat):Nat:=l.getD i 0%p
theorem zJi (p:Nat) (A:Option vy) (n c:Nat) (l:List Nat) (w:vw) (hp:Jb p=true) (hl:RWd w [ve A n c] l) (hn:n <= 100000) :
  vB prog 229 #[fv p,ve A n c] w fun e w'=>∃ g,e=vl (ve (vE ⟨g,0,vD⟩) n n) /\ w.1.size <= g /\ Blk w' g 22 (Qa n (YJ p l)) /\ vA w.1.size w w':=by
 have HR:=zH (fun x w=>rI p x w hp)
 obtain ⟨rfl,h1,h2,ta,Ra⟩:=Ob hl;clear hl;have Ra:=Ra;unfold fv at *;have mk:=Xw l.length zO;have gm:(l.length:Int) <= 100000:=by omega
 go_enter func229,ntmps229
 go_wp2_with fail
 obtain ⟨kf,ka,da,-⟩:=Yg w 224 22 #[vd vn p] (Qa l.length fun _=>0)
 have og:w.1.size<w.1.size+1:=by omega
 clear mk;generalize (w.alloc _).alloc _=w2 at kf ka da |-;generalize w.1.size+1=ga at ka og |-;rw [<- jK _ (YJ p l)] at ka;go_wp2_with fail
 go_loopw [6,7,13] (fun _ _ y wr=>∃ i:Nat,i <= l.length /\ y=vd vq i /\ Blk wr w.1.size 224 #[vd vn p] /\ Blk wr ga 22 (Qa l.length (ni (YJ p l) (fun _=>0) i)) /\ vA w.1.size w wr) (fun _ _ y _=>l.length-(intOf y).toNat)
 case atStart=>exact ⟨0,Kb _,rfl,kf,ka,da⟩
 case round =>
  clear kf ka da;obtain ⟨i,hi,rfl,kf,ka,da⟩:=hrel;by_cases WC:i<l.length
  ·have g1:(0:Int)<=i:=by omega
   have g2:(i:Int)<l.length:=by omega
   obtain ⟨b,q,rfl,Gb,hc⟩:=Rg (Ra.below da) WC;obtain ⟨x,hx⟩:=zEX (l.getD i 0);obtain ⟨z,hz⟩:=zEX (x%p);have HZ:=zH (show z=YJ p l i by rw [hz,hx];rfl)
   have HX:=zH (fun w=>by have:=HR.out x w;rw [<- hz] at this;exact this)
   rw [<- hx] at hc;clear hx hz;have cf:=kf.cell;go_wp2_with fail
   refine (HX.out _).mono ?_;rintro e w5 ⟨rfl,Za⟩;have Zk:ga<wr.1.size:=ka.lt;replace kf:=ia kf Za;replace ka:=ia ka Za;replace da:=ma da Za;clear hc cf Za;have fa:=ka.frozen;have ca:=ka.cell i;rw [nE _ _ WC] at ca;go_wp2_with fail
   have hg:=Zj (w:=w5) ga i (vd vn z);replace kf:=Fe kf hg;replace da:=Ef da hg;replace ka:=ka.set_ i (vd vn z);rw [oE HZ.out] at ka;clear hg fa ca
   go_roundw
   case rel=>exact ⟨i+1,zO,by go_num,kf,ka,da⟩
   case measure=>simp [intOf];omega
  ·obtain rfl:i=l.length:=by omega
   rw [OL] at ka;go_wp2;go_ret
   exact ⟨ga,rfl,zO,ka,da⟩
end Go.Proofs.YteoghgbnielkpaaGreat
