/- A part of the proof. No condition. -/
import Derived.Test.YteoghgbnielkpaaGreatPP2
import Derived.Test.YteoghgbnielkpaaGreatPP3
import Derived.Shelf.Spec.BitsCarry
import Derived.StillTailTactics
import Derived.Laws.OwnMore

set_option maxRecDepth 100000
set_option maxHeartbeats 8000000
set_option linter.unusedVariables false
set_option linter.unusedSimpArgs false
namespace Go.Proofs.YteoghgbnielkpaaGreat
open Go.RowKit
open Tryz
open Go renaming World->vu, Value->vw, Addr->vx, TypeId->vy, Calls->vA
open Go.Value renaming int->vd, slice->ve, agg->vf
open Go.IntKind renaming u64->vo, i64->vq
open Go.Ending renaming returned->vn
open Go.RowKit renaming Below->vz
open Go.World renaming setCell->vE
open Go.Act renaming put->vF
open Option renaming none->vB, some->vD
theorem Cc {p:Nat} (h:jc p=true):17 <= p /\ p<18446744073709551616:=by
 rcases Wv h with rfl | rfl | rfl | rfl | rfl | rfl | rfl <;> omega
theorem ID (p a b:Nat) (w:vu) (hp:jc p=true) :
  vA prog 71 #[vd vo p,vd vo a,vd vo b] w fun e w'=>e=vn (vd vo ((a+b)%p:Nat)) /\ vz w.1.size w w':=by
 obtain ⟨h1,h2⟩:=Cc hp;have HO:=zH hp;have p1:(0:Int)<p:=by omega
 have p2:¬((p:Int)=0):=by omega
 have ha:a%p<p:=Sc _ zO;have hb:b%p<p:=Sc _ zO;have HE:=zH (Nat.add_mod a b p);have e1:(a:Int)%(p:Int)=((a%p:Nat):Int):=rfl;have e2:(b:Int)%(p:Int)=((b%p:Nat):Int):=rfl;rw [HE.out];clear HE;revert e1 e2 ha hb
 generalize a%p=x;generalize b%p=y;intro ha hb e1 e2;have e3:vo.wrap ((p:Int)-y)=((p-y:Nat):Int):=Ku p y zO h2;have hz:p-y <= p:=by omega
 have Pg:p-y=p-y:=rfl;obtain ⟨z,hzz⟩:=zEX (p-y);rw [<- hzz] at e3;have HX:=zH (show z <= x /\ x+y<36893488147419103232 -> True from fun _=>trivial)
 by_cases hc:z <= x
 ·have e4:vo.wrap ((x:Int)-z)=((x-z:Nat):Int):=Ku x z hc zO
  obtain ⟨r,hr⟩:=zEX (x-z);rw [<- hr] at e4;have HR:=zH (show (x+y)%p=r by rw [hr,hzz,Nat.mod_eq_sub_mod zO,Lk zO];omega)
  have d1:decide ((z:Int)<=x)=true:=xc zO;clear hr hzz hz Pg h1 h2 ha hb hp;rw [HR.out];go_enter func71,ntmps71
  go_wp2_with (go_at_call 152;refine (Fq p _ (Cc HO.out).2).mono ?_;rintro e w1 ⟨rfl,Oa⟩;rw [HO.out])
  go_quiet (fail)
  go_wp2;go_ret
  exact ⟨rfl,KE Oa _⟩
 ·have e4:vo.wrap ((x:Int)+y)=((x+y:Nat):Int):=XT x y zO
  obtain ⟨r,hr⟩:=zEX (x+y);rw [<- hr] at e4;have HR:=zH (show (x+y)%p=r by rw [hr,Lk zO])
  have d1:decide ((z:Int)<=x)=false:=Xb zO;clear hr hzz hz Pg h1 h2 ha hb hp;rw [HR.out];go_enter func71,ntmps71
  go_wp2_with (go_at_call 152;refine (Fq p _ (Cc HO.out).2).mono ?_;rintro e w1 ⟨rfl,Oa⟩;rw [HO.out])
  go_quiet (fail)
  go_wp2;go_ret
  exact ⟨rfl,KE Oa _⟩
theorem Bz (p a b:Nat) (w:vu) (hp:jc p=true) :
  vA prog 181 #[vd vo p,vd vo a,vd vo b] w fun e w'=>e=vn (vd vo (a*b%p:Nat)) /\ vz w.1.size w w':=by
 obtain ⟨h1,h2⟩:=Cc hp;have HO:=zH hp;have p1:(0:Int)<p:=by omega
 have p2:¬((p:Int)=0):=by omega
 have p3:¬(p=0):=by omega
 have ha:a%p<p:=Sc _ zO;have hb:b%p<p:=Sc _ zO;have e1:(a:Int)%(p:Int)=((a%p:Nat):Int):=rfl;have e2:(b:Int)%(p:Int)=((b%p:Nat):Int):=rfl;have e3:(a:Int).tmod (p:Int)=((a%p:Nat):Int):=rfl;have e4:(b:Int).tmod (p:Int)=((b%p:Nat):Int):=rfl;rw [Nat.mul_mod a b p];revert e1 e2 e3 e4 ha hb
 generalize a%p=x;generalize b%p=y;intro ha hb e1 e2 e3 e4;have HX:=zH (show x<18446744073709551616 /\ y<18446744073709551616 by omega)
 have tF:x*y / 18446744073709551616<p:=by
  have:x*y <= p*18446744073709551615:=Nat.mul_le_mul zO zO;rw [Nat.div_lt_iff_lt_mul zO];omega
 have Dx:x*y%18446744073709551616<18446744073709551616:=Sc _ zO;have Wt:=FA (x*y) 18446744073709551616;rw [xg 18446744073709551616] at Wt;have HM:=zH (fun w=>K7 x y w HX.out.1 HX.out.2)
 revert tF Dx Wt HM
 generalize x*y / 18446744073709551616=hi;generalize x*y%18446744073709551616=lo;intro tF Dx Wt HM;have HD:=zH (fun w=>TZ hi lo p w tF Dx h2)
 rw [Wt] at HD;clear h1 h2 ha hb tF Dx Wt hp;revert HD
 generalize x*y / p=q;generalize x*y%p=r;intro HD;go_enter func181,ntmps181
 go_wp2_with (go_at_call 152;refine (Fq p _ (Cc HO.out).2).mono ?_;rintro e w1 ⟨rfl,Oa⟩;rw [HO.out])
 refine Pd (Rc) [6] [0,1,2,3,4,5,6,7,8,9,10,11] zK zK ?_;refine rM (Da) ?_;intro Wc ja;refine Mc ?_;refine ud Da rfl rfl rfl ((HM.out _).mono ?_);rintro e w2 ⟨rfl,rfl⟩;refine ⟨_,rfl,Da.refl _,?_⟩;replace ja:=zM Da ja (Da.refl _);refine zPU ?_;refine Mc ?_;refine Vc ?_;go_wp2_with (go_at_call 260;refine (HD.out _).mono ?_;rintro e w3 ⟨rfl,k,rfl⟩)
 go_ret
 exact ⟨rfl,KE (ta Oa.drew ja) _⟩
def ren25:Go.Shelf.Ren:=⟨fun | 25=>302 | n=>n,fun | 22=>22 | n=>n,fun n=>n⟩
theorem lays25:Go.Proofs.Lays7.n25 prog ren25:={ mixed:=by kernel_rfl,f25:=by kernel_rfl,t22:=by kernel_rfl,a22:=fun _=>zK,z22:=fun _=>zK,v22:=fun _=>zK,i22:=by kernel_rfl }
theorem zHy (x y:Nat) (w:vu):(callFunc 302 #[vd vo x,vd vo y,vd vo 0]).run prog w =
  .ok (.value (.tuple #[vd vo (((x+y)%18446744073709551616:Nat):Int),vd vo (((x+y) / 18446744073709551616:Nat):Int)])) w :=
 Any7.bits_Add64 lays25 x y 0 zO w
def fv (p:Nat):vw:=vf #[vd vo p]
theorem qv (p:Nat) (w:vu) (hp:jc p=true) :
  vA prog 214 #[fv p] w fun e w'=>e=vn (.bool true) /\ vz w.1.size w w':=by
 unfold fv;rcases Wv hp with rfl | rfl | rfl | rfl | rfl | rfl | rfl <;>
 ·go_enter func214,ntmps214
  go_wp2_with fail
  go_ret
  exact ⟨rfl,(Kb _ _).alloc zR _⟩
theorem I1 (p:Nat) (w:vu) (hp:jc p=true) :
  vA prog 223 #[fv p] w fun e w'=>e=vn (.tuple #[vd vo ((pc p).1:Int),vd vq ((pc p).2.1:Int),vd vo ((pc p).2.2:Int)]) /\ vz w.1.size w w':=by
 unfold fv;rcases Wv hp with rfl | rfl | rfl | rfl | rfl | rfl | rfl <;>
 ·go_enter func223,ntmps223
  go_wp2_with fail
  go_ret3
  exact ⟨rfl,(Kb _ _).alloc zR _⟩
theorem Z0 (p:Nat) (w:vu) (hp:jc p=true) :
  vA prog 131 #[fv p] w fun e w'=>e=vn (vd vo ((pc p).1:Int)) /\ vz w.1.size w w':=by
 have H:=zH (fun w=>I1 p w hp)
 clear hp;unfold fv at *;generalize pc p=r at *;obtain ⟨a,b,c⟩:=r;go_enter func131,ntmps131
 go_wp2_with (go_at_call 223;refine (H.out _).mono ?_;rintro e w1 ⟨rfl,hb⟩)
 go_ret
 exact ⟨rfl,ta ((Kb _ _).alloc zR _) hb⟩
theorem zC2 (p:Nat) (w:vu) (hp:jc p=true) :
  vA prog 313 #[fv p] w fun e w'=>e=vn (vd vo ((pc p).2.2:Int)) /\ vz w.1.size w w':=by
 have H:=zH (fun w=>I1 p w hp)
 clear hp;unfold fv at *;generalize pc p=r at *;obtain ⟨a,b,c⟩:=r;go_enter func313,ntmps313
 go_wp2_with (go_at_call 223;refine (H.out _).mono ?_;rintro e w1 ⟨rfl,hb⟩)
 go_ret
 exact ⟨rfl,ta ((Kb _ _).alloc zR _) hb⟩
theorem mH (p n:Nat) (w:vu) (hp:0<p) :
  vA prog 228 #[fv p,vd vo n] w fun e w'=>e=vn (vd vo ((n%p:Nat):Int)) /\ vz w.1.size w w':=by
 unfold fv;have p1:(0:Int)<p:=by omega
 have e1:(n:Int)%(p:Int)=((n%p:Nat):Int):=rfl;have e2:(n:Int).tmod (p:Int)=((n%p:Nat):Int):=rfl;by_cases h:p <= n
 ·have g:(p:Int)<=n:=by omega
  revert e1 e2
  generalize n%p=r;intro e1 e2;go_enter func228,ntmps228
  go_wp2_with fail
  go_ret
  exact ⟨rfl,(Kb _ _).alloc zR _⟩
 ·have g:¬((p:Int)<=n):=by omega
  have HE:=zH (Lk (show n<p by omega))
  clear e1 e2;rw [HE.out];go_enter func228,ntmps228
  go_wp2_with fail
  go_ret
  exact ⟨rfl,(Kb _ _).alloc zR _⟩
theorem EV (p a b:Nat) (w:vu) (hp:jc p=true) (ha:a<p) (hb:b<p) :
  vA prog 227 #[fv p,vd vo a,vd vo b] w fun e w'=>e=vn (vd vo ((a*b%p:Nat):Int)) /\ vz w.1.size w w':=by
 obtain ⟨h1,h2⟩:=Cc hp;unfold fv;have tF:a*b / 18446744073709551616<p:=by
  have:a*b <= p*18446744073709551615:=Nat.mul_le_mul zO zO;rw [Nat.div_lt_iff_lt_mul zO];omega
 have Dx:a*b%18446744073709551616<18446744073709551616:=Sc _ zO;have Wt:=FA (a*b) 18446744073709551616;rw [xg 18446744073709551616] at Wt;have HM:=zH (fun w=>K7 a b w zO zO)
 revert tF Dx Wt HM
 generalize a*b / 18446744073709551616=hi;generalize a*b%18446744073709551616=lo;intro tF Dx Wt HM;have HD:=zH (fun w=>TZ hi lo p w tF Dx h2)
 rw [Wt] at HD;clear h1 h2 ha hb tF Dx Wt hp;revert HD
 generalize a*b / p=q;generalize a*b%p=r;intro HD;go_enter func227,ntmps227
 go_wp2_with fail
 refine (HM.out _).mono ?_;rintro e w1 ⟨rfl,rfl⟩;go_wp2_with fail
 refine (HD.out _).mono ?_;rintro e w3 ⟨rfl,k,rfl⟩;go_wp2;go_ret
 exact ⟨rfl,KE ((Kb _ _).alloc zR _) _⟩
theorem zDb (p a b:Nat) (w:vu) (hp:jc p=true) (ha:a<p) (hb:b<p) :
  vA prog 279 #[fv p,vd vo a,vd vo b] w fun e w'=>e=vn (vd vo (((a+b)%p:Nat):Int)) /\ vz w.1.size w w':=by
 obtain ⟨h1,h2⟩:=Cc hp;unfold fv;have Ld:=zHy a b;obtain ⟨s,hs⟩:=zEX ((a+b)%18446744073709551616);obtain ⟨c,hc⟩:=zEX ((a+b) / 18446744073709551616);rw [<- hs,<- hc] at Ld;by_cases z:c=0
 ·have d1:((c:Int) != 0)=false:=by rw [Qw];omega
  have d1':(c:Int)=0:=by omega
  by_cases TH:p <= s
  ·have d2:(p:Int)<=s:=by omega
   have e:vo.wrap ((s:Int)-p)=(((a+b)%p:Nat):Int):=by
    rw [Ku s p TH zO]
    congr 1
    have e1:s=a+b:=by omega
    rw [e1,Nat.mod_eq_sub_mod zO,Lk zO]
   generalize (a+b)%p=r at *;clear hs hc hp z ha hb h1 h2 d1';go_enter func279,ntmps279
   go_wp2_with fail
   go_ret
   exact ⟨rfl,(Kb _ _).alloc zR _⟩
  ·have d2:¬((p:Int)<=s):=by omega
   have e:s=(a+b)%p:=by
    have e1:s=a+b:=by omega
    rw [e1,Lk zO]
   have HE:=zH e;clear hs hc hp z ha hb h1 h2 d1' e;rw [<- HE.out];go_enter func279,ntmps279
   go_wp2_with fail
   go_ret
   exact ⟨rfl,(Kb _ _).alloc zR _⟩
 ·have d1:((c:Int) != 0)=true:=by rw [dk];omega
  have e:vo.wrap ((s:Int)-p)=(((a+b)%p:Nat):Int):=by
   have e1:(a+b)%p=a+b-p:=by rw [Nat.mod_eq_sub_mod zO,Lk zO]
   rw [e1,mh];omega
  generalize (a+b)%p=r at *;clear hs hc hp z ha hb h1 h2;go_enter func279,ntmps279
  go_wp2_with fail
  go_ret
  exact ⟨rfl,(Kb _ _).alloc zR _⟩
theorem NR (p n:Nat) (w:vu) (hp:jc p=true) :
  vA prog 221 #[fv p,vd vo n] w fun e w'=>e=vn (vd vo ((n%p:Nat):Int)) /\ vz w.1.size w w':=by
 have HV:=zH (fun w=>qv p w hp)
 have HR:=zH (fun w=>mH p n w (zQ (Cc hp)))
 clear hp;unfold fv at *;generalize n%p=r at *;obtain ⟨kf,da⟩:=zN w 224 #[vd vo p];go_enter func221,ntmps221
 go_wp2_with fail
 refine (HV.out _).mono ?_;rintro e w1 ⟨rfl,Oa⟩;replace kf:=pa kf Oa;replace da:=ta da Oa;clear Oa;have cf:=kf.cell;go_wp2_with fail
 refine (HR.out _).mono ?_;rintro e w2 ⟨rfl,Fa⟩;go_wp2;go_ret
 exact ⟨rfl,ta da Fa⟩
theorem Rt (p a b:Nat) (w:vu) (hp:jc p=true) :
  vA prog 215 #[fv p,vd vo a,vd vo b] w fun e w'=>e=vn (vd vo (((a+b)%p:Nat):Int)) /\ vz w.1.size w w':=by
 have Og:0<p:=by have:=Cc hp;omega
 have HV:=zH (fun w=>qv p w hp)
 have HA:=zH (fun w=>mH p a w Og)
 have HB:=zH (fun w=>mH p b w Og)
 have HS:=zH (fun w=>zDb p (a%p) (b%p) w hp (Sc _ Og) (Sc _ Og))
 rw [<- Nat.add_mod] at HS;clear hp Og;unfold fv at *;generalize (a+b)%p=r at *;generalize a%p=x at *;generalize b%p=y at *;obtain ⟨kf,da⟩:=zN w 224 #[vd vo p];go_enter func215,ntmps215
 go_wp2_with fail
 refine (HV.out _).mono ?_;rintro e w1 ⟨rfl,Oa⟩;replace kf:=pa kf Oa;replace da:=ta da Oa;clear Oa;have cf:=kf.cell;have lf:=kf.lt;go_wp2_with fail
 refine tg (Rc) (Da) [] [] [0,1,2,3,4,5,6,7,8] zK zK ?_;refine ug (Da) ?_;intro Wc ja;refine Cf ?_;refine yd Da rfl rfl rfl rfl (fun w' hR=>HA.out _) ?_
 refine zPU ?_;refine Cf ?_;refine yd Da rfl rfl rfl rfl (fun w' hR=>HB.out _) ?_
 refine zPU ?_;refine Cf ?_;refine yd Da rfl rfl rfl rfl (fun w' hR=>HS.out _) ?_
 refine zPU ?_;refine Cf ?_;refine dw rfl ?_;intro wd Le;replace ja:=zM Da ja Le;clear Le;go_wp2;go_ret
 exact ⟨rfl,ta da.drew ja⟩
theorem qN {w w':vu} {p:vx} {v:vw} (hR:Rc w w') (h:w.cell? p=vD v):w'.cell? p=vD v:=(Below.cell hR (Bg _ _ h)).trans h
def Jd (p:Nat) (pub vars:Int) (rows:List sc):Bool :=
 jc p&&!decide (pub<0)&&!decide (vars <= pub)&&!decide (65536<vars)&&!decide ((16384:Int)<rows.length)&&rows.all (Cp p vars)
theorem MN (p:Nat) (pub vars:Int) (A:Option vx) (n c:Nat) (rows:List sc) (w:vu) (hr:RSl 3 yg w [ve A n c] rows) (hp:p<18446744073709551616) :
  vA prog 110 #[Xc p pub vars (ve A n c)] w fun e w'=>e=vn (.bool (Jd p pub vars rows)) /\ vz w.1.size w w':=by
 obtain ⟨A',n',c',he,hlen,Nd,Be,Na⟩:=hr;simp at he
 obtain ⟨rfl,rfl,rfl⟩:=he;subst hlen;unfold Xc;cases b1:jc p
 ·have E:=zH (show Jd p pub vars rows=false by simp [Jd,b1])
  have B1:=zH b1;clear b1;go_enter func110,ntmps110
  go_wp2_with (go_at_call 152;refine (Fq p _ hp).mono ?_;rintro e w1 ⟨rfl,hb⟩;rw [B1.out];have hB:=(Blk.new w _ _).below hb zS;have Oa:vz w.1.size w w1:=ta ((Kb _ w).alloc zR _) hb;have t1:w1.cell? ⟨w.1.size,1,vB⟩=vD (vd vq pub):=hB.cell 1;have t2:w1.cell? ⟨w.1.size,2,vB⟩=vD (vd vq vars):=hB.cell 2;have t3:w1.cell? ⟨w.1.size,3,vB⟩=vD (ve A rows.length c):=hB.cell 3;clear hb)
  go_ret
  exact ⟨by rw [E.out];rfl,Oa⟩
 have B1:=zH b1;by_cases z1:pub<0
 ·have E:=zH (show Jd p pub vars rows=false by unfold Jd;rw [xc z1];simp)
  have d1:=xc z1;clear b1;go_enter func110,ntmps110
  go_wp2_with (go_at_call 152;refine (Fq p _ hp).mono ?_;rintro e w1 ⟨rfl,hb⟩;rw [B1.out];have hB:=(Blk.new w _ _).below hb zS;have Oa:vz w.1.size w w1:=ta ((Kb _ w).alloc zR _) hb;have t1:w1.cell? ⟨w.1.size,1,vB⟩=vD (vd vq pub):=hB.cell 1;have t2:w1.cell? ⟨w.1.size,2,vB⟩=vD (vd vq vars):=hB.cell 2;have t3:w1.cell? ⟨w.1.size,3,vB⟩=vD (ve A rows.length c):=hB.cell 3;clear hb)
  go_ret
  exact ⟨by rw [E.out];rfl,Oa⟩
 have d1:=Xb z1;by_cases z2:vars <= pub
 ·have E:=zH (show Jd p pub vars rows=false by unfold Jd;rw [xc z2];simp)
  have d2:=xc z2;clear b1;go_enter func110,ntmps110
  go_wp2_with (go_at_call 152;refine (Fq p _ hp).mono ?_;rintro e w1 ⟨rfl,hb⟩;rw [B1.out];have hB:=(Blk.new w _ _).below hb zS;have Oa:vz w.1.size w w1:=ta ((Kb _ w).alloc zR _) hb;have t1:w1.cell? ⟨w.1.size,1,vB⟩=vD (vd vq pub):=hB.cell 1;have t2:w1.cell? ⟨w.1.size,2,vB⟩=vD (vd vq vars):=hB.cell 2;have t3:w1.cell? ⟨w.1.size,3,vB⟩=vD (ve A rows.length c):=hB.cell 3;clear hb)
  go_ret
  exact ⟨by rw [E.out];rfl,Oa⟩
 have d2:=Xb z2;by_cases z3:65536<vars
 ·have E:=zH (show Jd p pub vars rows=false by unfold Jd;rw [xc z3];simp)
  have d3:=xc z3;clear b1;go_enter func110,ntmps110
  go_wp2_with (go_at_call 152;refine (Fq p _ hp).mono ?_;rintro e w1 ⟨rfl,hb⟩;rw [B1.out];have hB:=(Blk.new w _ _).below hb zS;have Oa:vz w.1.size w w1:=ta ((Kb _ w).alloc zR _) hb;have t1:w1.cell? ⟨w.1.size,1,vB⟩=vD (vd vq pub):=hB.cell 1;have t2:w1.cell? ⟨w.1.size,2,vB⟩=vD (vd vq vars):=hB.cell 2;have t3:w1.cell? ⟨w.1.size,3,vB⟩=vD (ve A rows.length c):=hB.cell 3;clear hb)
  go_ret
  exact ⟨by rw [E.out];rfl,Oa⟩
 have d3:=Xb z3;by_cases z4:(16384:Int)<rows.length
 ·have E:=zH (show Jd p pub vars rows=false by unfold Jd;rw [xc z4];simp)
  have d4:=xc z4;clear b1;go_enter func110,ntmps110
  go_wp2_with (go_at_call 152;refine (Fq p _ hp).mono ?_;rintro e w1 ⟨rfl,hb⟩;rw [B1.out];have hB:=(Blk.new w _ _).below hb zS;have Oa:vz w.1.size w w1:=ta ((Kb _ w).alloc zR _) hb;have t1:w1.cell? ⟨w.1.size,1,vB⟩=vD (vd vq pub):=hB.cell 1;have t2:w1.cell? ⟨w.1.size,2,vB⟩=vD (vd vq vars):=hB.cell 2;have t3:w1.cell? ⟨w.1.size,3,vB⟩=vD (ve A rows.length c):=hB.cell 3;clear hb)
  go_ret
  exact ⟨by rw [E.out];rfl,Oa⟩
 have d4:=Xb z4;have E:=zH (show Jd p pub vars rows=rows.all (Cp p vars) by unfold Jd;rw [b1,d1,d2,d3,d4];simp)
 clear b1;go_enter func110,ntmps110
 go_wp2_with (go_at_call 152;refine (Fq p _ hp).mono ?_;rintro e w1 ⟨rfl,hb⟩;rw [B1.out];have hB:=(Blk.new w _ _).below hb zS;have Oa:vz w.1.size w w1:=ta ((Kb _ w).alloc zR _) hb;have t1:w1.cell? ⟨w.1.size,1,vB⟩=vD (vd vq pub):=hB.cell 1;have t2:w1.cell? ⟨w.1.size,2,vB⟩=vD (vd vq vars):=hB.cell 2;have t3:w1.cell? ⟨w.1.size,3,vB⟩=vD (ve A rows.length c):=hB.cell 3;clear hb)
 go_loopw [3] (fun i wr=>∃ j:Nat,j <= rows.length /\ i=vd vq j /\ vz w1.1.size w1 wr /\ Hid (∀ k<j,∀ h:k<rows.length,Cp p vars rows[k]=true))
  (fun i _=>rows.length-(intOf i).toNat)
 case atStart=>exact ⟨0,Qb _,rfl,Kb _ _,fun k hk=>zO⟩
 case round =>
  obtain ⟨j,hj,rfl,tb,HB⟩:=hrel;have s3:wr.cell? ⟨w.1.size,3,vB⟩=vD (ve A rows.length c):=(pa hB tb).cell 3;by_cases ya:j<rows.length
  ·have wv:Blk wr.drew w.1.size 25 _:=hB.below tb.drew hB.lt
   have Rb:vz w.1.size w wr.drew:=ta Oa tb.drew;obtain ⟨b,q,rfl⟩:=Na.base zO zO;obtain ⟨cs,-,hc,x,y,z,rfl,ld,qf,Vd⟩:=(Na.below Bh Rb).get ya;have h0:wr.drew.cell? ⟨b,q+j*3,vB⟩=vD x:=hc 0 zO;have h1:wr.drew.cell? ⟨b,q+j*3+1,vB⟩=vD y:=hc 1 zO;have h2:wr.drew.cell? ⟨b,q+j*3+2,vB⟩=vD z:=hc 2 zO;have HL:=zH ya;have i1:(0:Int)<=j:=by omega
   have i2:(j:Int)<rows.length:=by omega
   clear hc;cases bo:Cp p vars rows[j]
   ·have HO:=zH bo
    clear bo;go_wp2_with fail
    refine MQ Rc zK ?_;refine so 0 (v:=Xc p pub vars (ve (vD ⟨b,q,vB⟩) rows.length c)) Da zD zK zK zK (fun _ _ _ h=>h) (aw (by rfl) ?_) ?_;· ( intro w' hR;simp only [Ci,ph];unfold Xc;have q0:=(pa wv hR).cell 0;have q1:=(pa wv hR).cell 1;have q2:=(pa wv hR).cell 2;have q3:=(pa wv hR).cell 3;simp at q0 q1 q2 q3;go_simp )
    simp only [vF,Ci,ph,Ha,Ja,Ia];refine so 1 (v:=?_) Da zD zK zK zK (fun _ _ _ h=>h) (aw (by rfl) ?_) ?_;rotate_left;· ( intro w' hR;simp only [Ci,ph];go_simp;try with_reducible rfl )
    simp only [vF,Ci,ph,Ha,Ja,Ia];refine so 2 (v:=ve (vD ⟨b,q,vB⟩) rows.length c) Da zD zK zK zK (fun _ _ _ h=>h) (aw (by rfl) ?_) ?_;· ( intro w' hR;simp only [Ci,ph];have q3:=(pa wv hR).cell 3;simp at q3;go_simp )
    simp only [vF,Ci,ph,Ha,Ja,Ia];refine so 3 (v:=?_) Da zD zK zK zK (fun _ _ _ h=>h) (aw (by rfl) ?_) ?_;rotate_left;· ( intro w' hR;simp only [Ci,ph];go_simp;try with_reducible rfl )
    simp only [vF,Ci,ph,Ha,Ja,Ia];refine so 4 (v:=?_) Da zD zK zK zK (fun _ _ _ h=>h) (aw (by rfl) ?_) ?_;rotate_left;· ( intro w' hR;simp only [Ci,ph];go_simp;try with_reducible rfl )
    simp only [vF,Ci,ph,Ha,Ja,Ia];refine so 5 (v:=vf #[x,y,z]) Da zD zK zK zK (fun _ _ _ h=>h) (aw (by rfl) ?_) ?_;· ( intro w' hR;simp only [Ci,ph];have r0:=qN hR h0;have r1:=qN hR h1;have r2:=qN hR h2;go_simp )
    simp only [vF,Ci,ph,Ha,Ja,Ia];refine zBz 6 Da zD zK (by rfl) ((zAe p pub vars (ve (vD ⟨b,q,vB⟩) rows.length c) rows[j] x y z _ ld qf Vd hp).mono ?_) (fun _=>by simp only [Ci,ph];go_simp)
    rintro e w3 ⟨rfl,Ra⟩;rw [HO.out];refine ⟨_,rfl,Ra,?_⟩;simp only [vF,Ci,ph,Ha,Ja,Ia];refine so 7 (v:=?_) Da zD zK zK zK (fun _ _ _ h=>h) (aw (by rfl) ?_) ?_;rotate_left;· ( intro w' hR;simp only [Ci,ph];go_simp;try with_reducible rfl )
    simp only [vF,Ci,ph,Ha,Ja,Ia];refine JY zK ?_;go_wp2;go_ret
    refine ⟨by rw [E.out,uE.2 ⟨rows[j],Qe HL.out,fun h=>Bool.noConfusion (HO.out.symm.trans h)⟩];rfl,ta Rb Ra⟩
   ·have HO:=zH bo
    clear bo;go_wp2_with fail
    refine MQ Rc zK ?_;refine so 0 (v:=Xc p pub vars (ve (vD ⟨b,q,vB⟩) rows.length c)) Da zD zK zK zK (fun _ _ _ h=>h) (aw (by rfl) ?_) ?_;· ( intro w' hR;simp only [Ci,ph];unfold Xc;have q0:=(pa wv hR).cell 0;have q1:=(pa wv hR).cell 1;have q2:=(pa wv hR).cell 2;have q3:=(pa wv hR).cell 3;simp at q0 q1 q2 q3;go_simp )
    simp only [vF,Ci,ph,Ha,Ja,Ia];refine so 1 (v:=?_) Da zD zK zK zK (fun _ _ _ h=>h) (aw (by rfl) ?_) ?_;rotate_left;· ( intro w' hR;simp only [Ci,ph];go_simp;try with_reducible rfl )
    simp only [vF,Ci,ph,Ha,Ja,Ia];refine so 2 (v:=ve (vD ⟨b,q,vB⟩) rows.length c) Da zD zK zK zK (fun _ _ _ h=>h) (aw (by rfl) ?_) ?_;· ( intro w' hR;simp only [Ci,ph];have q3:=(pa wv hR).cell 3;simp at q3;go_simp )
    simp only [vF,Ci,ph,Ha,Ja,Ia];refine so 3 (v:=?_) Da zD zK zK zK (fun _ _ _ h=>h) (aw (by rfl) ?_) ?_;rotate_left;· ( intro w' hR;simp only [Ci,ph];go_simp;try with_reducible rfl )
    simp only [vF,Ci,ph,Ha,Ja,Ia];refine so 4 (v:=?_) Da zD zK zK zK (fun _ _ _ h=>h) (aw (by rfl) ?_) ?_;rotate_left;· ( intro w' hR;simp only [Ci,ph];go_simp;try with_reducible rfl )
    simp only [vF,Ci,ph,Ha,Ja,Ia];refine so 5 (v:=vf #[x,y,z]) Da zD zK zK zK (fun _ _ _ h=>h) (aw (by rfl) ?_) ?_;· ( intro w' hR;simp only [Ci,ph];have r0:=qN hR h0;have r1:=qN hR h1;have r2:=qN hR h2;go_simp )
    simp only [vF,Ci,ph,Ha,Ja,Ia];refine zBz 6 Da zD zK (by rfl) ((zAe p pub vars (ve (vD ⟨b,q,vB⟩) rows.length c) rows[j] x y z _ ld qf Vd hp).mono ?_) (fun _=>by simp only [Ci,ph];go_simp)
    rintro e w3 ⟨rfl,Ra⟩;rw [HO.out];refine ⟨_,rfl,Ra,?_⟩;simp only [vF,Ci,ph,Ha,Ja,Ia];refine so 7 (v:=?_) Da zD zK zK zK (fun _ _ _ h=>h) (aw (by rfl) ?_) ?_;rotate_left;· ( intro w' hR;simp only [Ci,ph];go_simp;try with_reducible rfl )
    simp only [vF,Ci,ph,Ha,Ja,Ia];refine JY zK ?_;go_wp2
    go_roundw
    case rel =>
     refine ⟨j+1,zO,by go_num,ta tb.drew Ra,fun k hk h=>?_⟩
     rcases Zj k j with h5 | h5
     ·exact HB.out k h5 h
     ·have e:k=j:=by omega
      subst e;exact HO.out
    case measure=>simp [intOf];omega
  ·go_wp2
   go_ret
   have e:j=rows.length:=by omega
   refine ⟨by rw [E.out,oh.2 (fun r hr=>by obtain ⟨k,hk,rfl⟩:=Vq hr;exact HB.out k zO hk)];rfl,ta Oa tb⟩
def Qj (p:Nat) (vars:Int) (l:List Nat):Bool:=!((l.length:Int) != vars)&&!((l.length:Int) == 0)&&!(((l.getD 0 0:Nat):Int) != 1)&&l.all fun x=>decide (x<p)
theorem RWd.at_ {w:vu} {A:Option vx} {l:List Nat} (h:Rd w 1 A l.length (Qa l)) {i:Nat} (hi:i<l.length):∃ ad,A=vD ad /\ w.cell? (ad.add i)=vD (vd vo ((l.getD i 0:Nat):Int)):=by
 obtain ⟨ad,u,rfl,hu,hc⟩:=h.at_ hi;rw [cH hi] at hu
 injection hu with hu
 subst hu;exact ⟨ad,rfl,by simpa [hi] using hc⟩
theorem GX (p:Nat) (pub vars:Int) (T:vw) (A:Option vx) (n c:Nat) (l:List Nat) (w:vu) (hl:RWd w [ve A n c] l) (_hp:p<18446744073709551616) :
  vA prog 111 #[Xc p pub vars T,ve A n c] w fun e w'=>e=vn (.bool (Qj p vars l)) /\ vz w.1.size w w':=by
 obtain ⟨A',n',c',he,Nd,Be,Na,ya⟩:=hl;simp at he
 obtain ⟨rfl,rfl,rfl⟩:=he;have hlen:=Na.len1;rw [qt] at hlen;subst hlen;unfold Xc;have da:∀ o,vz w.1.size w (w.alloc o):=fun o=>(Kb _ w).alloc zR _
 by_cases z1:(l.length:Int)=vars
 ·subst z1
  rcases Jn l.length with z2 | z2
  ·have E:=zH (show Qj p (l.length:Int) l=false by simp [Qj,z2])
   rw [z2];rw [z2] at E;go_enter func111,ntmps111
   go_wp2_with fail
   go_ret
   exact ⟨by rw [E.out];rfl,da _⟩
  ·obtain ⟨ad,rfl,hc⟩:=RWd.at_ (Na.below (da (.cells #[vd vo p,vd vq pub,vd vq l.length,T] 25))) z2
   have g0:((l.length:Int) == 0)=false:=by rw [Ke];omega
   have g1:(0:Int)<l.length:=by omega
   have gm:(l.length:Int) <= 9223372036854775807:=by
    have h3:=Nd;have h4:=Be;simp [maxLen] at h4
    omega
   by_cases z3:l.getD 0 0=1
   ·have Sl:(w.alloc (.cells #[vd vo p,vd vq pub,vd vq l.length,T] 25)).cell? ad=vD (vd vo 1):=by
     rw [z3] at hc
     simpa [Addr.add] using hc
    have E:=zH (show Qj p (l.length:Int) l=l.all fun x=>decide (x<p) by unfold Qj;rw [z3,g0];simp)
    clear hc z3;go_enter func111,ntmps111
    go_wp2_with fail
    go_loopw [5] (fun i wr=>∃ j kk:Nat,j <= l.length /\ i=vd vq j /\ wr=(w.alloc (.cells #[vd vo p,vd vq pub,vd vq l.length,T] 25)).drewN kk /\ Hid (∀ k<j,l.getD k 0<p))
     (fun i _=>l.length-(intOf i).toNat)
    case atStart=>exact ⟨0,0,Qb _,rfl,rfl,fun k hk=>zO⟩
    case round =>
     obtain ⟨j,kk,hj,rfl,rfl,HB⟩:=hrel;by_cases bu:j<l.length
     ·obtain ⟨ad',he',hc⟩:=RWd.at_ (Na.below (da (.cells #[vd vo p,vd vq pub,vd vq l.length,T] 25))) bu
      injection he' with he'
      subst he';have g2:(0:Int)<=j:=by omega
      have g3:(j:Int)<l.length:=by omega
      have HL:=zH bu;have HY:Hid (l.getD j 0=l.getD j 0):=rfl;revert hc HY
      generalize hy:l.getD j 0=y;intro hc _;have HY:=zH hy;clear hy;by_cases z4:p <= y
      ·have d4:decide ((p:Int)<=y)=true:=xc zO
       have HZ:=zH z4;clear Na z4;go_wp2_with fail
       go_quiet (fail)
       go_wp2;go_ret
       have HA:(l.all fun x=>decide (x<p))=false:=by
        refine uE.2 ⟨l[j]'HL.out,Qe HL.out,?_⟩;have h1:=HY.out;have h2:=HZ.out;simp [HL.out] at h1
        simp [h1]
        omega
       exact ⟨by rw [E.out,HA];rfl,mv (mv (da _) _) _⟩
      ·have d4:decide ((p:Int)<=y)=false:=Xb zO
       have HZ:=zH z4;clear Na z4;go_wp2_with fail
       go_quiet (fail)
       go_wp2
       go_roundw
       case rel =>
        refine ⟨j+1,_,zO,by go_num,rfl,fun k hk=>?_⟩
        rcases Zj k j with h5 | h5
        ·exact HB.out k h5
        ·have e:k=j:=by omega
         subst e;have h1:=HY.out;have h2:=HZ.out;omega
       case measure=>simp [intOf];omega
     ·go_wp2
      go_ret
      have e:j=l.length:=by omega
      have HA:(l.all fun x=>decide (x<p))=true:=by
       refine oh.2 ?_;intro x hx;obtain ⟨k,hk,rfl⟩:=Vq hx;have:=HB.out k zO
       simpa [hk] using this
      exact ⟨by rw [E.out,HA];rfl,mv (da _) _⟩
   ·have Sl:(w.alloc (.cells #[vd vo p,vd vq pub,vd vq l.length,T] 25)).cell? ad=vD (vd vo ((l.getD 0 0:Nat):Int)):=by simpa [Addr.add] using hc
    have d3:(((l.getD 0 0:Nat):Int) != 1)=true:=by rw [dk];omega
    have E:=zH (show Qj p (l.length:Int) l=false by unfold Qj;rw [d3];simp)
    clear hc z3;revert Sl d3
    generalize l.getD 0 0=y;intro Sl d3;go_enter func111,ntmps111
    go_wp2_with fail
    go_ret
    exact ⟨by rw [E.out];rfl,da _⟩
 ·have d1:((l.length:Int) != vars)=true:=by rw [dk];exact z1
  have E:=zH (show Qj p vars l=false by simp [Qj,z1])
  go_enter func111,ntmps111
  go_wp2_with fail
  go_ret
  exact ⟨by rw [E.out];rfl,da _⟩
theorem zBl (n k:Nat) (w:vu) (hn:n <= 1000000000) (hk:0<k) (Dm:k <= 1000000000) :
  vA prog 155 #[vd vq n,vd vq k] w fun e w'=>e=vn (vd vq (((n+k-1) / k:Nat):Int)) /\ w'=w:=by
 obtain ⟨m,rfl⟩:∃ m,k=m+1:=⟨k-1,zO⟩;have e1:Hid (((n+(m+1)-1) / (m+1):Nat)=(n+m) / (m+1)):=rfl;go_enter func155,ntmps155
 go_wp2_with fail
 go_ret
 refine ⟨?_,rfl⟩;show Ending.returned (vd vq (((n:Int)+((m:Int)+1)-1) / ((m:Int)+1)))=_
 rw [show (n:Int)+((m:Int)+1)-1=((n+(m+1)-1:Nat):Int) from by omega]
 rfl
theorem gG {w:vu} {A:Option vx} {n:Nat} {xs:List vw} (h:Rd w 1 A n xs) (hn:0<n):∃ b q,A=vD ⟨b,q,vB⟩ /\ b<w.1.size /\ ∀ k,k<n -> w.cell? ⟨b,q+k,vB⟩=xs[k]?:=by
 obtain ⟨ad,rfl,hc⟩:=h.2 hn;have hl:=h.len1;have h0:=hc 0 _ (Ec zO);obtain ⟨b,q,rfl⟩:∃ b q,ad=⟨b,q,vB⟩:=by
  have hs:=World.cell?_spot h0;rw [gZ] at hs;obtain ⟨b,q,s⟩:=ad;simp at hs
  subst hs;exact ⟨b,q,rfl⟩
 refine ⟨b,q,rfl,Bg _ _ (by rw [gZ] at h0;exact h0),fun k hk=>?_⟩
 rw [<- jv,hc k _ (Ec zO),Ec zO]
def CB (p:Nat) (ws:List Nat) (s:Nat) (t:Int × Nat):Nat:=if 0 <= t.1 /\ t.1<(ws.length:Int) then (s+t.2*ws.getD t.1.toNat 0%p)%p else s
def Gg (p:Nat) (l:List (Int × Nat)) (ws:List Nat):Nat:=l.foldl (CB p ws) 0
theorem R6 (p:Nat) (l:List (Int × Nat)) (ws:List Nat) (j:Nat) (h:j<l.length):Gg p (l.take (j+1)) ws=CB p ws (Gg p (l.take j) ws) (l.getD j (0,0)):=by
 unfold Gg;rw [Cy h,List.foldl_append];simp [h]
theorem wT (p:Nat) (A B:Option vx) (len c n d:Nat) (l:List (Int × Nat)) (ws:List Nat) (w:vu) (hl:RLin w [ve A len c] l) (hw:RWd w [ve B n d] ws) (hp:jc p=true) :
  vA prog 149 #[vd vo p,ve A len c,ve B n d] w fun e w'=>e=vn (vd vo (Gg p l ws:Nat)) /\ vz w.1.size w w':=by
 obtain ⟨A',n',c',he,hlen,Nd,Be,Na⟩:=hl;simp at he
 obtain ⟨rfl,rfl,rfl⟩:=he;subst hlen;obtain ⟨B',m',d',he,jn,hmy,tp,jD⟩:=hw;simp at he
 obtain ⟨rfl,rfl,rfl⟩:=he;have hm:ws.length=n:=by have:=tp.len1;rwa [qt] at this
 subst hm;have g0:(l.length:Int) <= 9223372036854775807:=by
  simp [maxLen] at Be
  omega
 go_enter func149,ntmps149
 go_wp2_with fail
 go_loopw [7,8] (fun s i wr=>∃ j:Nat,j <= l.length /\ i=vd vq j /\ s=vd vo (Gg p (l.take j) ws:Nat) /\ vz w.1.size w wr)
  (fun _ i _=>l.length-(intOf i).toNat)
 case atStart=>exact ⟨0,Qb _,rfl,rfl,Kb _ _⟩
 case round =>
  obtain ⟨j,hj,rfl,rfl,hb⟩:=hrel;by_cases ya:j<l.length
  ·have HS:=zH (R6 p l ws j ya)
   revert HS
   generalize Gg p (l.take j) ws=s;intro HS;obtain ⟨b,q,rfl⟩:=Na.base zO zO;have iz:=Na.below JF hb;obtain ⟨c1,c2⟩:=RLin.at_ iz ya;have dc:=Bg _ _ c1;have HL:=zH ya;have g1:(0:Int)<=j:=by omega
   have g2:(j:Int)<l.length:=by omega
   have HW:=zH (fun (k:Nat) (hk:k<ws.length)=>(gG (tp.below hb) zO).imp fun b' h=>h.imp fun q' h=>(⟨h.1,h.2.1,(h.2.2 k hk).trans (cH hk)⟩:_ /\ _ /\ _=vD (vd vo (ws[k]:Int))))
   revert c1 c2 HS
   generalize hx:(l.getD j (0,0))=t;obtain ⟨x,y⟩:=t;clear hx;simp only;intro HS c1 c2;clear Na iz tp;by_cases z1:x<0
   ·have d1:decide (0 <= x)=false:=Xb zO
    have HE:=zH (show Gg p (l.take (j+1)) ws=s by rw [HS.out,CB,Gb zT])
    go_wp2_with fail
    go_roundw
    case rel=>exact ⟨j+1,zO,by go_num,by rw [HE.out],hb⟩
    case measure=>simp [intOf];omega
   ·obtain ⟨k,rfl⟩:=jm (show 0 <= x by omega)
    by_cases z2:k<ws.length
    ·have d1:decide ((0:Int)<=k)=true:=xc zO
     have d2:decide ((k:Int)<ws.length)=true:=xc zO;obtain ⟨b',q',rfl,il,c3⟩:=HW.out k z2;have HE:=zH (show Gg p (l.take (j+1)) ws=(s+y*ws[k]%p)%p by rw [HS.out,CB,Lb zT];show (s+y*ws.getD ((k:Int)).toNat 0%p)%p=_;rw [En,Hc,Ec z2,Option.getD_some])
     clear HW HS;revert c3 HE
     generalize ws[k]=v;have HM:=zH (fun w=>Bz p y v w hp)
     revert HM
     generalize y*v%p=m;intro HM c3 HE;have i1:(0:Int)<=k:=by omega
     have i2:(k:Int)<ws.length:=by omega
     go_wp2_with fail
     refine Pd (Rc) [16,17] [0,1,2,3,4,5,6,7,8,9,10,11,12,13,14,15,16,17,18] zK zK ?_;refine rM (Da) ?_;intro Wc ja;refine Mc ?_;refine ud Da rfl rfl rfl ((HM.out _).mono ?_);rintro e w2 ⟨rfl,Fa⟩;refine ⟨_,rfl,Fa,?_⟩;replace ja:=zM Da ja (Fa);refine zPU ?_;refine Mc ?_;refine ud Da rfl rfl rfl ((ID p s m _ hp).mono ?_);rintro e w3 ⟨rfl,Ra⟩;refine ⟨_,rfl,Ra,?_⟩;replace ja:=zM Da ja (Ra);refine zPU ?_;refine Mc ?_;refine Vc ?_;go_wp2
     go_roundw
     case rel=>exact ⟨j+1,zO,by go_num,by rw [HE.out];rfl,ta hb.drew ja⟩
     case measure=>simp [intOf];omega
    ·have d1:decide ((0:Int)<=k)=true:=xc zO
     have d2:decide ((k:Int)<ws.length)=false:=Xb zO;have HE:=zH (show Gg p (l.take (j+1)) ws=s by rw [HS.out,CB,Gb zT])
     go_wp2_with fail
     go_roundw
     case rel=>exact ⟨j+1,zO,by go_num,by rw [HE.out],hb⟩
     case measure=>simp [intOf];omega
  ·go_wp2
   go_ret
   have e:j=l.length:=by omega
   subst e;exact ⟨by rw [By];rfl,hb⟩
def QB (p:Nat) (r:sc) (ws:List Nat):Bool:=decide (Gg p r.a ws*Gg p r.b ws%p=Gg p r.c ws)
theorem zGO (p:Nat) (x y z:vw) (B:Option vx) (n d:Nat) (r:sc) (ws:List Nat) (w:vu) (hx:RLin w [x] r.a) (hy:RLin w [y] r.b) (hz:RLin w [z] r.c) (hw:RWd w [ve B n d] ws) (hp:jc p=true) :
  vA prog 207 #[vd vo p,vf #[x,y,z],ve B n d] w fun e w'=>e=vn (.bool (QB p r ws)) /\ vz w.1.size w w':=by
 obtain ⟨v1,bh⟩:=zEX (Gg p r.a ws*Gg p r.b ws%p);obtain ⟨v2,Gf⟩:=zEX (Gg p r.c ws);obtain ⟨ro,yW⟩:∃ ro,ro=QB p r ws:=⟨_,rfl⟩;have oA:Hid (((v1:Int)==v2)=ro):=zH (by rw [yW];unfold QB;rw [<- bh,<- Gf];exact Bool.eq_iff_iff.2 zT)
 rw [<- yW];clear yW;have xA:=zH bh;have Uu:=zH Gf;clear bh Gf;obtain ⟨A1,n1,c1,rfl⟩:=RSl.slc hx;obtain ⟨A2,n2,c2,rfl⟩:=RSl.slc hy;obtain ⟨A3,n3,c3,rfl⟩:=RSl.slc hz;have da:vz w.1.size w (w.alloc (.cells #[ve A1 n1 c1,ve A2 n2 c2,ve A3 n3 c3] 211)):=(Kb _ w).alloc zR _;have hB:=Blk.new w 211 #[ve A1 n1 c1,ve A2 n2 c2,ve A3 n3 c3];have HP:=zH hp;clear hp;revert da hB
 generalize ru:w.alloc (.cells #[ve A1 n1 c1,ve A2 n2 c2,ve A3 n3 c3] 211)=w0;intro da hB;have HW0:=zH ru;clear ru;have k0:w0.cell? ⟨w.1.size,0,vB⟩=vD (ve A1 n1 c1):=hB.cell 0;have k1:w0.cell? ⟨w.1.size,1,vB⟩=vD (ve A2 n2 c2):=hB.cell 1;have k2:w0.cell? ⟨w.1.size,2,vB⟩=vD (ve A3 n3 c3):=hB.cell 2;have ya:=hB.lt;go_enter func207,ntmps207
 go_wp2_with fail
 rw [HW0.out];refine Pd (Rc) [5,10,11,16] [0,1,2,3,4,6,7,8,9,12,13,14,15,5,10,11,16,17,18] zK zK ?_;refine rM (Da) ?_;intro Wc ja;refine Mc ?_;refine ud Da rfl rfl rfl ((wT p _ _ _ _ _ _ r.a ws _ (Ph _ _ _ _ (ta da.drew ja) hx) (Wa (ta da.drew ja) hw) HP.out).mono ?_);rintro e w2 ⟨rfl,Fa⟩;refine ⟨_,rfl,Fa,?_⟩;replace ja:=zM Da ja (Fa);refine zPU ?_;refine Mc ?_;refine ud Da rfl rfl rfl ((wT p _ _ _ _ _ _ r.b ws _ (Ph _ _ _ _ (ta da.drew ja) hy) (Wa (ta da.drew ja) hw) HP.out).mono ?_);rintro e w3 ⟨rfl,Ra⟩;refine ⟨_,rfl,Ra,?_⟩;replace ja:=zM Da ja (Ra);refine zPU ?_;refine Mc ?_;refine ud Da rfl rfl rfl ((Bz p (Gg p r.a ws) (Gg p r.b ws) _ HP.out).mono ?_);rintro e w4 ⟨rfl,Ib⟩;refine ⟨_,rfl,Ib,?_⟩;replace ja:=zM Da ja (Ib);refine zPU ?_;rw [<- xA.out];refine Mc ?_;refine ud Da rfl rfl rfl ((wT p _ _ _ _ _ _ r.c ws _ (Ph _ _ _ _ (ta da.drew ja) hz) (Wa (ta da.drew ja) hw) HP.out).mono ?_);rintro e w5 ⟨rfl,Bb⟩;refine ⟨_,rfl,Bb,?_⟩;replace ja:=zM Da ja (Bb);refine zPU ?_;rw [<- Uu.out];have hro:=oA.out;refine Mc ?_;refine Vc ?_;go_wp2;go_ret
 exact ⟨rfl,ta da.drew ja⟩
def RB (p:Nat) (rows:List sc) (ws:List Nat):Bool:=rows.all fun r=>QB p r ws
theorem zAG {p:Nat} {rows:List sc} {ws:List Nat} (h:∀ k (hk:k<rows.length),QB p rows[k] ws=true):RB p rows ws=true:=oh.2 fun r hr=>by
 obtain ⟨k,hk,rfl⟩:=Vq hr;exact h k hk
theorem zAH {p:Nat} {rows:List sc} {ws:List Nat} {k:Nat} (hk:k<rows.length) (h:QB p rows[k] ws=false):RB p rows ws=false:=by
 cases e:RB p rows ws
 ·rfl
 ·have:=oh.1 e rows[k] (Qe hk)
  rw [h] at this;cases this
theorem LI {p:Nat} {pub vars:Int} {rows:List sc} (h:Jd p pub vars rows=true):jc p=true:=by
 unfold Jd at h;simp only [pe] at h;exact h.1.1.1.1.1
theorem zGM (p:Nat) (pub vars:Int) (A B:Option vx) (n c m d:Nat) (rows:List sc) (ws:List Nat) (w:vu) (hr:RSl 3 yg w [ve A n c] rows) (hw:RWd w [ve B m d] ws)
  (ht:Jd p pub vars rows=true) (ha:Qj p vars ws=true) :
  vA prog 112 #[Xc p pub vars (ve A n c),ve B m d] w fun e w'=>(∃ n:Int,e=vn (vd vq n) /\ decide (n<0)=RB p rows ws) /\ vz w.1.size w w':=by
 have Fb:=LI ht;have hp:=(Cc Fb).2;have HV:=zH (fun w' (hb:vz w.1.size w w')=>MN p pub vars A n c rows w' (Qg Bh _ _ _ _ hb hr) hp)
 have HA:=zH (fun w' (hb:vz w.1.size w w')=>GX p pub vars (ve A n c) B m d ws w' (Wa hb hw) hp)
 rw [ht] at HV;rw [ha] at HA;clear ht ha;have hr0:=hr;obtain ⟨A',n',c',he,hlen,Nd,Be,Na⟩:=hr;simp at he
 obtain ⟨rfl,rfl,rfl⟩:=he;subst hlen;unfold Xc;have gm:(rows.length:Int) <= 9223372036854775807:=by
  simp [maxLen] at Be
  omega
 have da:vz w.1.size w (w.alloc (.cells #[vd vo p,vd vq pub,vd vq vars,ve A rows.length c] 25)):=(Kb _ w).alloc zR _;have hB:=Blk.new w 25 #[vd vo p,vd vq pub,vd vq vars,ve A rows.length c];have HP:=zH hp;have HO:=zH Fb;clear hp Fb;go_enter func112,ntmps112
 go_wp2_with (first | (go_at_call 111;refine (HA.out _ (ta da hb)).mono ?_;rintro e w2 ⟨rfl,Fa⟩) | (go_at_call 110;refine (HV.out _ da).mono ?_;rintro e w1 ⟨rfl,hb⟩;have Ll:=hB.below hb zS;have t0:w1.cell? ⟨w.1.size,0,vB⟩=vD (vd vo p):=Ll.cell 0;have t1:w1.cell? ⟨w.1.size,1,vB⟩=vD (vd vq pub):=Ll.cell 1;have t2:w1.cell? ⟨w.1.size,2,vB⟩=vD (vd vq vars):=Ll.cell 2;have t3:w1.cell? ⟨w.1.size,3,vB⟩=vD (ve A rows.length c):=Ll.cell 3))
 clear t0 t1 t2 t3;have Bm:=pa Ll Fa;have Rb:=ta (ta da hb) Fa;clear Ll hB hb Fa da;go_loopw [5] (fun i wr=>∃ j:Nat,j <= rows.length /\ i=vd vq j /\ vz w2.1.size w2 wr /\ Hid (∀ k (hk:k<rows.length),k<j -> QB p rows[k] ws=true))
  (fun i _=>rows.length-(intOf i).toNat)
 case atStart=>exact ⟨0,Qb _,rfl,Kb _ _,fun k _ hk=>zO⟩
 case round =>
  obtain ⟨j,hj,rfl,tb,Fj⟩:=hrel;have wv:=pa Bm tb;have t0:wr.cell? ⟨w.1.size,0,vB⟩=vD (vd vo p):=wv.cell 0;have t3:wr.cell? ⟨w.1.size,3,vB⟩=vD (ve A rows.length c):=wv.cell 3;have l0:=wv.lt;by_cases ya:j<rows.length
  ·obtain ⟨b,q,rfl⟩:=Na.base zO zO
   obtain ⟨cs,-,hc,x,y,z,rfl,hx,hy,hz⟩:=(Na.below Bh (ta Rb tb)).get ya;have c0:wr.cell? ⟨b,q+j*3,vB⟩=vD x:=hc 0 zO;have c1:wr.cell? ⟨b,q+j*3+1,vB⟩=vD y:=hc 1 zO;have c2:wr.cell? ⟨b,q+j*3+2,vB⟩=vD z:=hc 2 zO;have l1:b<wr.1.size:=Bg _ _ c0;have g1:(0:Int)<=j:=by omega
   have g2:(j:Int)<rows.length:=by omega
   clear hc;go_wp2_with fail
   refine Pd (Rc) [8] [0,1,2,3,4,5,6,7,8,9] zK zK ?_;refine rM (Da) ?_;intro Wc ja;refine Mc ?_;refine ud Da rfl rfl rfl ((zGO p x y z B m d rows[j] ws _ (Ph _ _ _ _ ja hx) (Ph _ _ _ _ ja hy) (Ph _ _ _ _ ja hz) (Wa (ta (ta Rb tb.drew) ja) hw) HO.out).mono ?_);rintro e w3 ⟨rfl,Ra⟩;refine ⟨_,rfl,Ra,?_⟩;replace ja:=zM Da ja (Ra);refine zPU ?_;refine Mc ?_;refine Vc ?_;have tc:=zH ya;cases ng:QB p rows[j] ws
   ·have HBO:=zH ng
    clear ng;go_wp2;go_ret
    exact ⟨⟨_,rfl,(Xb zO).trans (zAH tc.out HBO.out).symm⟩,ta (ta Rb tb.drew) ja⟩
   ·have HBO:=zH ng
    clear ng;go_wp2
    go_roundw
    case rel =>
     refine ⟨j+1,zO,by go_num,ta tb.drew ja,fun k hk hkj=>?_⟩
     by_cases e:k<j
     ·exact Fj.out k hk e
     ·obtain rfl:k=j:=by omega
      exact HBO.out
    case measure=>simp [intOf];omega
  ·have HS:=zH (zAG fun k hk=>Fj.out k hk zO)
   go_wp2;go_ret
   exact ⟨⟨_,rfl,(xc zO).trans HS.out.symm⟩,ta Rb tb⟩
theorem zHd (p:Nat) (pub vars:Int) (A B:Option vx) (n c m d:Nat) (rows:List sc) (ws:List Nat) (w:vu) (hr:RSl 3 yg w [ve A n c] rows) (hw:RWd w [ve B m d] ws)
  (ht:Jd p pub vars rows=true) (ha:Qj p vars ws=true) :
  vA prog 51 #[Xc p pub vars (ve A n c),ve B m d] w fun e w'=>e=vn (.bool (RB p rows ws)) /\ vz w.1.size w w':=by
 have Fb:=LI ht;have hp:=(Cc Fb).2;have HV:=zH (fun w' (hb:vz w.1.size w w')=>MN p pub vars A n c rows w' (Qg Bh _ _ _ _ hb hr) hp)
 have HA:=zH (fun w' (hb:vz w.1.size w w')=>GX p pub vars (ve A n c) B m d ws w' (Wa hb hw) hp)
 have HF:=zH (fun w' (hb:vz w.1.size w w')=>zGM p pub vars A B n c m d rows ws w' (Qg Bh _ _ _ _ hb hr) (Wa hb hw) ht ha)
 rw [ht] at HV;rw [ha] at HA;clear ht ha hp Fb;obtain ⟨A',n',c',he,-⟩:=hr;simp at he
 obtain ⟨rfl,rfl,rfl⟩:=he;unfold Xc;have da:vz w.1.size w (w.alloc (.cells #[vd vo p,vd vq pub,vd vq vars,ve A n c] 25)):=(Kb _ w).alloc zR _;have hB:=Blk.new w 25 #[vd vo p,vd vq pub,vd vq vars,ve A n c];go_enter func51,ntmps51
 go_wp2_with (first | (go_at_call 112;refine (HF.out _ (ta (ta da hb) Fa)).mono ?_;rintro e w3 ⟨⟨x,rfl,hx⟩,Ra⟩) | (go_at_call 111;refine (HA.out _ (ta da hb)).mono ?_;rintro e w2 ⟨rfl,Fa⟩;clear t0 t1 t2 t3;have Bm:=pa Ll Fa;have t0:w2.cell? ⟨w.1.size,0,vB⟩=vD (vd vo p):=Bm.cell 0;have t1:w2.cell? ⟨w.1.size,1,vB⟩=vD (vd vq pub):=Bm.cell 1;have t2:w2.cell? ⟨w.1.size,2,vB⟩=vD (vd vq vars):=Bm.cell 2;have t3:w2.cell? ⟨w.1.size,3,vB⟩=vD (ve A n c):=Bm.cell 3) | (go_at_call 110;refine (HV.out _ da).mono ?_;rintro e w1 ⟨rfl,hb⟩;have Ll:=hB.below hb zS;have t0:w1.cell? ⟨w.1.size,0,vB⟩=vD (vd vo p):=Ll.cell 0;have t1:w1.cell? ⟨w.1.size,1,vB⟩=vD (vd vq pub):=Ll.cell 1;have t2:w1.cell? ⟨w.1.size,2,vB⟩=vD (vd vq vars):=Ll.cell 2;have t3:w1.cell? ⟨w.1.size,3,vB⟩=vD (ve A n c):=Ll.cell 3))
 go_ret
 exact ⟨by rw [<- hx];rfl,ta (ta (ta da hb) Fa) Ra⟩
def fY (rows:List sc):Prop:=∀ r∈rows,r.a.length <= 100000 /\ r.b.length <= 100000 /\ r.c.length <= 100000
def MI (rows:List sc):Nat:=(rows.map fun r=>r.a.length+r.b.length+r.c.length).sum
def mR (rows:List sc):Prop:=fY rows -> rows.length+MI rows <= 400
def SmallB (rows:List sc) (e:Ending):Prop:=∃ b,e=vn (.bool b) /\ (b=true -> mR rows)
theorem zIa (rows:List sc) {j:Nat} (h:j<rows.length):MI (rows.take (j+1))=MI (rows.take j)+(rows[j].a.length+rows[j].b.length+rows[j].c.length):=by
 unfold MI;rw [Cy h,List.map_append,List.sum_append];simp
theorem RLin.open_ {w:vu} {v:vw} {l:List (Int × Nat)} (h:RLin w [v] l):∃ A n c,v=ve A n c /\ n <= maxLen /\ l.length=n:=by
 obtain ⟨A,n,c,e,h0,h1,h2,-⟩:=h;simp at e
 exact ⟨A,n,c,e,zO,h0⟩
theorem zHf (p:Nat) (pub vars:Int) (A:Option vx) (n c:Nat) (rows:List sc) (w:vu) (hr:RSl 3 yg w [ve A n c] rows) :
  vA prog 89 #[Xc p pub vars (ve A n c)] w fun e w'=>SmallB rows e /\ vz w.1.size w w':=by
 obtain ⟨A',n',c',he,hlen,Nd,Be,Na⟩:=hr;simp at he
 obtain ⟨rfl,rfl,rfl⟩:=he;subst hlen;unfold Xc;have gm:(rows.length:Int) <= 9223372036854775807:=by
  have h3:=Nd;have h4:=Be;simp [maxLen] at h4
  omega
 obtain ⟨w0,ru⟩:=zEX (w.alloc (.cells #[vd vo p,vd vq pub,vd vq vars,ve A rows.length c] 25));have da:vz w.1.size w w0:=by rw [ru];exact (Kb _ w).alloc zR _
 have hB:Blk w0 w.1.size 25 #[vd vo p,vd vq pub,vd vq vars,ve A rows.length c]:=by rw [ru];exact Blk.new w _ _
 go_enter func89,ntmps89
 go_wp2_with fail
 rw [<- ru];have HW:=zH ru;clear ru;go_loopw [3,4] (fun s i wr=>∃ (j kk:Nat) (t:Int),j <= rows.length /\ i=vd vq j /\ s=vd vq t /\ wr=w0.drewN kk /\ Hid (fY rows -> t=(rows.length:Int)+(MI (rows.take j):Int)))
  (fun _ i _=>rows.length-(intOf i).toNat)
 case atStart=>exact ⟨0,0,rows.length,Qb _,rfl,rfl,rfl,fun _=>by simp [MI]⟩
 case round =>
  obtain ⟨j,kk,t,hj,rfl,rfl,rfl,HT⟩:=hrel;have s3:(w0.drewN kk).cell? ⟨w.1.size,3,vB⟩=vD (ve A rows.length c):=(hB.drewN kk).cell 3;by_cases ya:j<rows.length
  ·by_cases z1:t <= 400
   ·have d1:=xc z1
    obtain ⟨b,q,rfl⟩:=Na.base zO zO;obtain ⟨cs,-,hc,x,y,z,rfl,ld,qf,Vd⟩:=(Na.below Bh (mv da kk)).get ya;obtain ⟨A1,n1,c1,rfl,m1,u1⟩:=RLin.open_ ld;obtain ⟨A2,n2,c2,rfl,m2,u2⟩:=RLin.open_ qf;obtain ⟨A3,n3,c3,rfl,m3,u3⟩:=RLin.open_ Vd;have HU:=zH (And.intro ya (And.intro u1 (And.intro u2 u3)));clear u1 u2 u3;have h0:(w0.drewN kk).cell? ⟨b,q+j*3,vB⟩=vD _:=hc 0 zO;have h1:(w0.drewN kk).cell? ⟨b,q+j*3+1,vB⟩=vD _:=hc 1 zO;have h2:(w0.drewN kk).cell? ⟨b,q+j*3+2,vB⟩=vD _:=hc 2 zO;have i1:(0:Int)<=j:=by omega
    have i2:(j:Int)<rows.length:=by omega
    simp [maxLen] at m1 m2 m3 h0 h1 h2
    clear hc ld qf Vd;simp at s3
    go_wp2_with fail
    go_quiet (fail)
    go_wp2
    go_roundw
    case rel =>
     refine ⟨j+1,_,_,zO,by go_num,rfl,rfl,fun hs=>?_⟩
     obtain ⟨hl,u1,u2,u3⟩:=HU.out;have h1:=HT.out hs;have h2:=hs rows[j] (Qe hl);rw [zIa rows hl];unfold wrap64;omega
    case measure=>simp [intOf];omega
   ·have d1:=Xb z1
    go_wp2;go_ret
    exact ⟨⟨_,rfl,fun h=>by simp at h⟩,mv da _⟩
  ·obtain rfl:j=rows.length:=by omega
   go_wp2;go_ret
   refine ⟨⟨_,rfl,fun h hs=>?_⟩,mv da _⟩
   have h1:=HT.out hs;rw [By] at h1;simp at h
   omega
theorem zDr (n:Nat) (w:vu) (hn:n <= 4096) :
  vA prog 154 #[vd vq n] w fun e w'=>∃ k,e=vn (vd vq ((2^k:Nat):Int)) /\ n <= 2^k /\ 2^k <= 2*n+1 /\ (1 <= n -> 2^k<2*n) /\ w'=w:=by
 go_enter func154,ntmps154
 go_wp2_with fail
 go_loopw [3] (fun i wr=>∃ (k m:Nat),i=vd vq m /\ Hid (m=2^k) /\ 0<m /\ m <= 2*n+1 /\ Hid (1 <= n -> m<2*n) /\ wr=w)
  (fun i _=>2*n+1-(intOf i).toNat)
 case atStart=>exact ⟨0,1,rfl,rfl,zO,zO,(fun _=>zO),zS⟩
 case round =>
  obtain ⟨k,m,rfl,HM,hm0,jf,HL,rfl⟩:=hrel;by_cases ya:m<n
  ·go_wp2
   go_roundw
   case rel =>
    refine ⟨k+1,2*m,by go_num,?_,zO,zO,(fun _=>zO),zS⟩
    show 2*m=2^(k+1)
    rw [HM.out,Zg,xg]
   case measure=>simp [intOf];omega
  ·go_wp2
   go_ret
   refine ⟨k,?_,?_,?_,?_,rfl⟩
   ·rw [<- HM.out];rfl
   ·rw [<- HM.out];omega
   ·rw [<- HM.out];omega
   ·rw [<- HM.out];exact HL.out
structure Tb where
 p:Nat
 block:Nat
 queries:Nat
 k:Nat
 n:Nat
 secret:Nat
 rows:Nat
 a:Nat
 b:Nat
def Ub (l:Tb):Array vw:=#[vd vo l.p,vd vq l.block,vd vq l.queries,vd vq l.k,vd vq l.n,vd vq l.secret,vd vq l.rows,vd vq l.a,vd vq l.b,vd vq l.b,vd vq l.b]
def Fh:Array vw:=#[vd vo 0,vd vq 0,vd vq 0,vd vq 0,vd vq 0,vd vq 0,vd vq 0,vd vq 0,vd vq 0,vd vq 0,vd vq 0]
structure Ad (l:Tb):Prop where
 p:jc l.p=true
 b1:2 <= l.block
 b2:l.block <= 256
 q1:1 <= l.queries
 q2:l.queries <= 64
 k:l.k=l.block+l.queries
 n:∃ j,l.n=2^j
 n2:l.n <= 1024
 s:l.secret <= 65536
 r:l.rows <= 16384
 a:l.a <= 100000
 b:l.b <= 100000
 bj:l.block &&& (l.block-1)=0
 bd:(l.p-1)%l.block=0
 nd:(l.p-1)%l.n=0
 nl:l.n<l.p-1
 nk:2*l.k <= l.n
 ae:l.a=(l.secret+l.block-1) / l.block
 be:l.b=(l.rows+l.block-1) / l.block
def Dr (n:Nat):Nat:=2^((n-1).log2+1)
theorem zDn {n m:Nat} (hn:2 <= n) (h:∃ k,m=2^k) (h1:n <= m) (h2:m<2*n):m=Dr n:=by
 obtain ⟨k,rfl⟩:=h;cases k with
 | zero=>simp at h1;omega
 | succ k =>
  unfold Dr;rw [Zg] at h1 h2;have:(n-1).log2=k:=(Nat.log2_eq_iff zO).2 ⟨zO,by rw [Zg];omega⟩
  rw [this]
structure NewIn where
 p:Nat
 pub:Int
 vars:Int
 nr:Nat
 bl:Int
 bw:Int
 qs:Int
def NewIn.n (x:NewIn):Nat:=x.bw.toNat*Dr (2*(x.bl.toNat+x.qs.toNat))
def uz (x:NewIn):Int :=
 if x.bl<2 \/ 256<x.bl \/ x.bl.toNat &&& (x.bl.toNat-1)≠0 \/ x.qs<1 \/ 64<x.qs \/ (x.bw≠1 /\ x.bw≠2 /\ x.bw≠4 /\ x.bw≠8) then 1
 else if (x.p-1)%x.bl.toNat≠0 \/ (x.p-1)%x.n≠0 \/ x.p-1 <= x.n then 7
 else if 1024<x.n then 3 else 0
def qX (x:NewIn):Tb:=⟨x.p,x.bl.toNat,x.qs.toNat,x.bl.toNat+x.qs.toNat,x.n,(x.vars-1-x.pub).toNat,x.nr,((x.vars-1-x.pub).toNat+x.bl.toNat-1) / x.bl.toNat,(x.nr+x.bl.toNat-1) / x.bl.toNat⟩
structure yy (L:Tb) (x:NewIn):Prop where
 p:L.p=x.p
 eq:L=qX x
 err:uz x=0
 pub:0 <= x.pub
 vars:x.pub<x.vars
theorem zA7 {w w1:vu} {t1 t2 t3:vy} {Qc Zc Zd:Array vw} (hb:vz (((w.alloc (.cells Qc t1)).alloc (.cells Zc t2)).alloc (.cells Zd t3)).1.size (((w.alloc (.cells Qc t1)).alloc (.cells Zc t2)).alloc (.cells Zd t3)) w1) :
  Blk w1 w.1.size t1 Qc /\ Blk w1 (w.1.size+1) t2 Zc /\ Blk w1 (w.1.size+1+1) t3 Zd /\ vz w.1.size w w1:=by
 refine ⟨(((Blk.new w t1 Qc).alloc _).alloc _).below hb zT,?_,?_,ta ((((Kb _ w).alloc zR _).alloc zS _).alloc zT _) hb⟩
 ·have:=((Blk.new (w.alloc (.cells Qc t1)) t2 Zc).alloc (.cells Zd t3)).below hb zS
  simpa using this
 ·have:=(Blk.new ((w.alloc (.cells Qc t1)).alloc (.cells Zc t2)) t3 Zd).below hb zS
  simpa using this
section
variable {w w0:vu} {g B:Nat} {t:vy} {cs:Array vw}
theorem zHP {y0 y1 y2 y3 y4 y5 y6 y7 y8 y9 Eg:vw} (k:Blk w g t #[y0,y1,y2,y3,y4,y5,y6,y7,y8,y9,Eg]) (x0 x1 x2 x3 x4 x5 x6 x7 x8 x9 Xx:vw) :
  Blk (((((((((((w.setCell ⟨g,0,vB⟩ x0).setCell ⟨g,1,vB⟩ x1).setCell ⟨g,2,vB⟩ x2).setCell ⟨g,3,vB⟩ x3).setCell ⟨g,4,vB⟩ x4).setCell ⟨g,5,vB⟩ x5).setCell ⟨g,6,vB⟩ x6).setCell ⟨g,7,vB⟩ x7).setCell ⟨g,8,vB⟩ x8).setCell ⟨g,9,vB⟩ x9).setCell ⟨g,10,vB⟩ Xx) g t #[x0,x1,x2,x3,x4,x5,x6,x7,x8,x9,Xx]:=by
 have h:=((((((((((k.set_ 0 x0).set_ 1 x1).set_ 2 x2).set_ 3 x3).set_ 4 x4).set_ 5 x5).set_ 6 x6).set_ 7 x7).set_ 8 x8).set_ 9 x9).set_ 10 Xx
 simpa using h
theorem zHO (h:vz B w0 w) (hg:B <= g) (x0 x1 x2 x3 x4 x5 x6 x7 x8 x9 Xx:vw) :
  vz B w0 (((((((((((w.setCell ⟨g,0,vB⟩ x0).setCell ⟨g,1,vB⟩ x1).setCell ⟨g,2,vB⟩ x2).setCell ⟨g,3,vB⟩ x3).setCell ⟨g,4,vB⟩ x4).setCell ⟨g,5,vB⟩ x5).setCell ⟨g,6,vB⟩ x6).setCell ⟨g,7,vB⟩ x7).setCell ⟨g,8,vB⟩ x8).setCell ⟨g,9,vB⟩ x9).setCell ⟨g,10,vB⟩ Xx) :=
 ((((((((((h.setCell hg x0).setCell hg x1).setCell hg x2).setCell hg x3).setCell hg x4).setCell hg x5).setCell hg x6).setCell hg x7).setCell hg x8).setCell hg x9).setCell hg Xx
theorem kG {y0 y1 y2 y3 y4 y5 y6 y7 y8 y9 Eg:vw} (k:Blk w g t #[y0,y1,y2,y3,y4,y5,y6,y7,y8,y9,Eg]) (h:vz B w0 w) (x0 x1 x2 x3 x4 x5 x6 x7 x8 x9 Xx:Int) (hg:B <= g:=by omega):∃ wf,(((((((((((w.setCell ⟨g,0,vB⟩ (vd vo x0)).setCell ⟨g,1,vB⟩ (vd vq x1)).setCell ⟨g,2,vB⟩ (vd vq x2)).setCell ⟨g,3,vB⟩ (vd vq x3)).setCell ⟨g,4,vB⟩ (vd vq x4)).setCell ⟨g,5,vB⟩ (vd vq x5)).setCell ⟨g,6,vB⟩ (vd vq x6)).setCell ⟨g,7,vB⟩ (vd vq x7)).setCell ⟨g,8,vB⟩ (vd vq x8)).setCell ⟨g,9,vB⟩ (vd vq x9)).setCell ⟨g,10,vB⟩ (vd vq Xx))=wf /\ Blk wf g t #[vd vo x0,vd vq x1,vd vq x2,vd vq x3,vd vq x4,vd vq x5,vd vq x6,vd vq x7,vd vq x8,vd vq x9,vd vq Xx] /\ vz B w0 wf :=
 ⟨_,rfl,zHP k _ _ _ _ _ _ _ _ _ _ _,zHO h hg _ _ _ _ _ _ _ _ _ _ _⟩
theorem SB {y0 y1 y2 y3 y4 y5 y6 y7 y8 y9 Eg:vw} (k:Blk w g t #[y0,y1,y2,y3,y4,y5,y6,y7,y8,y9,Eg]) (h:vz B w0 w) (hg:B <= g:=by omega):type_of% (kG k h 0 0 0 0 0 0 0 0 0 0 0 hg):=kG k h 0 0 0 0 0 0 0 0 0 0 0 hg
theorem dY {y0 y1 y2 y3 y4 y5 y6 y7 y8 y9 Eg:vw} (k:Blk w g t #[y0,y1,y2,y3,y4,y5,y6,y7,y8,y9,Eg]) (h:vz B w0 w) (L:Tb) (hg:B <= g:=by omega):type_of% (kG k h L.p L.block L.queries L.k L.n L.secret L.rows L.a L.b L.b L.b hg):=kG k h L.p L.block L.queries L.k L.n L.secret L.rows L.a L.b L.b L.b hg
end
theorem tR:∀ b:Fin 257,2 <= b.val -> bits .and vq (b.val:Int) ((b.val:Int)-1)=((b.val &&& (b.val-1):Nat):Int):=by decide +kernel
section
variable (p:Nat) (pub vars:Int) (A:Option vx) (n c:Nat) (rows:List sc) (bl bw qs:Int) (w:vu)
def Uv:Array vw:=#[Xc p pub vars (ve A n c),vf #[vd vq bl,vd vq bw,vd vq qs]]
end
theorem zGX (p:Nat) (pub vars:Int) (A:Option vx) (n c:Nat) (rows:List sc) (bl bw qs:Int) (w:vu) (hr:RSl 3 yg w [ve A n c] rows) (ht:Jd p pub vars rows=true)
  (h:bl<2 \/ 256<bl \/ bl.toNat &&& (bl.toNat-1)≠0 \/ qs<1 \/ 64<qs \/ (bw≠1 /\ bw≠2 /\ bw≠4 /\ bw≠8)) :
  vA prog 73 (Uv p pub vars A n c bl bw qs) w fun e w'=>e=vn (.tuple #[vf Fh,vd vq 1]) /\ vz w.1.size w w':=by
 have Fb:=LI ht;have hp:=(Cc Fb).2;have HV:=zH (fun w' (hb:vz w.1.size w w')=>MN p pub vars A n c rows w' (Qg Bh _ _ _ _ hb hr) hp)
 rw [ht] at HV;clear ht Fb hp;obtain ⟨A',n',c',he,hlen,-,-,-⟩:=hr;simp at he
 obtain ⟨rfl,rfl,rfl⟩:=he;subst hlen;unfold Uv Xc;have da:vz w.1.size w (((w.alloc (.cells #[vd vo p,vd vq pub,vd vq vars,ve A rows.length c] 25)).alloc (.cells #[vd vq bl,vd vq bw,vd vq qs] 27)).alloc (.cells Fh 35)):=(((Kb _ w).alloc zR _).alloc zS _).alloc zT _;unfold Fh at da;have key:decide (bl<2)=true \/ decide (bl<2)=false /\ (decide (256<bl)=true \/ decide (256<bl)=false /\ ∃ b:Nat,bl=b /\ (1:Int) <= b /\ (b:Int) <= 256 /\ (0:Int)<=b-1 /\ ∃ r:Nat,bits .and vq (b:Int) ((b:Int)-1)=(r:Int) /\ (((r:Int) != 0)=true \/ r=0 /\ (decide (qs<1)=true \/ decide (qs<1)=false /\ (decide (64<qs)=true \/ decide (64<qs)=false /\ (bw != 1)=true /\ (bw != 2)=true /\ (bw != 4)=true /\ (bw != 8)=true)))):=by
  by_cases h0:bl<2
  ·exact .inl (xc h0)
  refine .inr ⟨Xb h0,?_⟩;by_cases h1:256<bl
  ·exact .inl (xc h1)
  refine .inr ⟨Xb h1,?_⟩;obtain ⟨b,rfl⟩:=jm (show 0 <= bl by omega)
  rw [En] at h;refine ⟨b,rfl,zO,zO,zO,_,tR ⟨b,zO⟩ (by show 2 <= b;omega),?_⟩
  by_cases h2:b &&& (b-1)=0
  ·refine .inr ⟨h2,?_⟩
   by_cases h3:qs<1
   ·exact .inl (xc h3)
   refine .inr ⟨Xb h3,?_⟩;by_cases h4:64<qs
   ·exact .inl (xc h4)
   refine .inr ⟨Xb h4,?_⟩;simp only [dk];omega
  ·exact .inl (by rw [dk];exact fun e=>h2 (Int.ofNat.inj e))
 clear h;rcases key with d1 | ⟨d1,d2 | ⟨d2,b,rfl,i1,i3,i2,r,hand,d3 | ⟨rfl,d4 | ⟨d4,d5 | ⟨d5,e1,e2,e4,e8⟩⟩⟩⟩⟩
 all_goals
  go_enter func73,ntmps73
  go_wp2_with (go_at_call 110;refine (HV.out _ da).mono ?_;rintro e w1 ⟨rfl,hb⟩;obtain ⟨k2,k3,k4,Rb⟩:=zA7 hb;have p0:w1.cell? ⟨w.1.size+1,0,vB⟩=vD (vd vq _):=k3.cell 0;have p1:w1.cell? ⟨w.1.size+1,1,vB⟩=vD (vd vq bw):=k3.cell 1;have p2:w1.cell? ⟨w.1.size+1,2,vB⟩=vD (vd vq qs):=k3.cell 2;have c4:=k4.cell;have f4:=k4.frozen;unfold Fh at c4;clear hb)
  obtain ⟨wf,Yc,kW,hW⟩:=SB k4 Rb;rw [Yc];clear Yc c4 f4 p0 p1 p2 k2 k3 k4;have c4:=kW.cell;exact Uc (v:=.tuple #[vf Fh,vd vq 1]) (by simp [results,results73,go_sem,c4,Fh]) rfl ⟨rfl,hW⟩
theorem uo (x:Int) (h1:-9223372036854775808 <= x) (h2:x <= 9223372036854775807):vq.wrap x=x:=by rw [Bi];omega
theorem Xd (x:Int) (a:-9223372036854775808 <= x:=by omega) (b:x <= 9223372036854775807:=by omega):vq.wrap x=x:=uo x a b
theorem zDv (n:Nat) (w:vu) (hn:n <= 4096):vA prog 154 #[vd vq n] w fun e w'=>∃ m,((∃ k,m=2^k) /\ n <= m /\ (1 <= n -> m<2*n)) /\ m <= 2*n+1 /\ e=vn (vd vq m) /\ w'=w :=
 (zDr n w hn).mono fun _ _ ⟨k,he,hl,hm,hs,hw⟩=>⟨2^k,⟨⟨k,rfl⟩,hl,hs⟩,hm,he,hw⟩
def TG (x:NewIn) (e:Ending):Prop:=∃ (lcs:Array vw) (er:Int),e=vn (.tuple #[vf lcs,vd vq er]) /\ ((er≠0 /\ lcs=Fh /\ er=uz x) \/ (er=0 /\ ∃ L,Ad L /\ yy L x /\ lcs=Ub L))
theorem U7 {p U V nr b q bw pm N NN:Nat} (h0:2 <= b) (h1:b <= 256) (h2:b &&& (b-1)=0) (h3:1 <= q) (h4:q <= 64) (hw:bw=1 \/ bw=2 \/ bw=4 \/ bw=8) (hp:pm=p-1) (hN:(∃ k,N=2^k) /\ 2*(b+q) <= N /\ (1 <= 2*(b+q) -> N<2*(2*(b+q)))) (pk:NN=bw*N) :
  NN=NewIn.n ⟨p,U,V,nr,b,bw,q⟩ /\ uz ⟨p,U,V,nr,b,bw,q⟩=if pm%b≠0 \/ pm%NN≠0 \/ pm <= NN then 7 else if 1024<NN then 3 else 0:=by
 have e:=zDn zO hN.1 hN.2.1 (hN.2.2 zO);have e2:NN=NewIn.n ⟨p,U,V,nr,b,bw,q⟩:=by
  show NN=(bw:Int).toNat*Dr (2*((b:Int).toNat+(q:Int).toNat))
  rw [pk,e]
  rfl
 refine ⟨e2,?_⟩;unfold uz;rw [<- e2,Gb]
 ·simp only [En,hp]
 ·simp only [En]
  omega
theorem zGY (p U V:Nat) (A:Option vx) (n c:Nat) (rows:List sc) (b q:Nat) (x:Int) (w:vu) (hr:RSl 3 yg w [ve A n c] rows) (ht:Jd p U V rows=true)
  (h0:2 <= b) (h1:b <= 256) (h2:b &&& (b-1)=0) (h3:1 <= q) (h4:q <= 64) (hx:x=1 \/ x=2 \/ x=4 \/ x=8) :
  vA prog 73 (Uv p U V A n c b x q) w fun e w'=>TG ⟨p,U,V,rows.length,b,x,q⟩ e /\ vz w.1.size w w':=by
 obtain ⟨B,t,yf,hBt⟩:∃ B t:Nat,((x=1 /\ B=1) \/ (x=2 /\ B=2) \/ (x=4 /\ B=4) \/ (x=8 /\ B=8)) /\ B=2^t:=by
  rcases hx with rfl | rfl | rfl | rfl
  ·exact ⟨1,0,zS⟩
  ·exact ⟨2,1,zS⟩
  ·exact ⟨4,2,zS⟩
  ·exact ⟨8,3,zS⟩
 obtain ⟨X,hX⟩:∃ X:NewIn,X=⟨p,U,V,rows.length,b,x,q⟩:=⟨_,rfl⟩;rw [<- hX];have HX:=zH hX;have hX2:X=⟨p,U,V,rows.length,b,(B:Int),q⟩:=by rw [hX,show x=(B:Int) by omega]
 clear hX;obtain ⟨f,hf⟩:∃ f:Nat -> Nat,∀ N,f N=B*N:=⟨_,fun _=>rfl⟩
 have bJ:=zH hf;have HBN:=zH (show ∀ N:Nat,x*(N:Int)=((f N:Nat):Int) from fun N=>by rw [hf,Vh,show x=(B:Int) by omega])
 have HBT:=zH hBt;have Fb:=LI ht;obtain ⟨Sd,hp⟩:=Cc Fb;have HV:=zH (fun w' (hb:vz w.1.size w w')=>MN p U V A n c rows w' (Qg Bh _ _ _ _ hb hr) hp)
 rw [ht] at HV;have hand:=tR ⟨b,zO⟩ (by show 2 <= b;omega)
 simp only at hand;rw [h2] at hand;have nL:U<V /\ V <= 65536 /\ rows.length <= 16384:=by
  unfold Jd at ht;simp only [pe,Mm,Ly] at ht;omega
 obtain ⟨t1,t2,t3⟩:=nL;obtain ⟨A',n',c',he,hlen,Nd,Be,-⟩:=hr;simp at he
 obtain ⟨rfl,rfl,rfl⟩:=he;subst hlen;unfold Uv Xc;have da:vz w.1.size w (((w.alloc (.cells #[vd vo p,vd vq U,vd vq V,ve A rows.length c] 25)).alloc (.cells #[vd vq b,vd vq x,vd vq q] 27)).alloc (.cells Fh 35)):=(((Kb _ w).alloc zR _).alloc zS _).alloc zT _;unfold Fh at da;have d1:decide ((b:Int)<2)=false:=Xb zO;have d2:decide ((256:Int)<b)=false:=Xb zO;have d4:decide ((q:Int)<1)=false:=Xb zO;have d5:decide ((64:Int)<q)=false:=Xb zO;have i1:(1:Int)<=b:=by omega
 have i2:(0:Int)<=b-1:=by omega
 have i3:(b:Int) <= 256:=by omega
 have i4:(1:Int)<=q:=by omega
 have i5:(q:Int) <= 64:=by omega
 obtain ⟨k,hk⟩:=zEX (b+q);have ek:(b:Int)+q=(k:Int):=by omega
 obtain ⟨s,hs⟩:=zEX (V-1-U);have es:(V:Int)-1-(U:Int)=s:=by omega
 have i6:(V:Int) <= 65536:=by omega
 have i7:(1:Int)<=V:=by omega
 have i8:(k:Int) <= 320:=by omega
 have i9:(0:Int)<=k:=by omega
 obtain ⟨pm,Vl⟩:=zEX (p-1);have ep:vo.wrap ((p:Int)-1)=(pm:Int):=by rw [Vl];exact Ku p 1 zO hp
 have HF:=zH (fun w=>zDv (2*k) w zO)
 have TJ:(2:Int)*k=((2*k:Nat):Int):=by omega
 obtain ⟨kk,Kv⟩:=zEX (2*k);rw [<- Kv] at HF TJ;have ek3:=Xd kk;have j1:kk <= 640:=by omega
 have HB:=zH (And.intro h0 h1);have HQ:=zH (And.intro h3 h4);have HK:=zH hk;have HS:=zH hs;have HT:=zH (And.intro Fb (And.intro t1 (And.intro t2 t3)));have gm:(rows.length:Int) <= 16384:=by omega
 have HP:=zH (show pm=p-1 /\ 17 <= p from ⟨Vl,Sd⟩)
 have hb256:vo.wrap (b:Int)=b:=Wk b zO;have HG:Hid (∀ N NN,((∃ k,N=2^k) /\ 2*(b+q) <= N /\ (1 <= 2*(b+q) -> N<2*(2*(b+q)))) -> NN=B*N -> NN=X.n /\ uz X=if pm%b≠0 \/ pm%NN≠0 \/ pm <= NN then 7 else if 1024<NN then 3 else 0):=zH (by rw [hX2];exact fun N NN hN pk=>U7 h0 h1 h2 h3 h4 zO Vl hN pk)
 have oc:=zH h2;have HKK:=zH (show kk=2*(b+q) by omega)
 clear h0 h1 h2 h3 h4 hk hs Kv Fb hp Sd ht t1 t2 t3 Vl hX2 hf hBt hx;rcases yf with ⟨rfl,rfl⟩ | ⟨rfl,rfl⟩ | ⟨rfl,rfl⟩ | ⟨rfl,rfl⟩
 all_goals
  go_enter func73,ntmps73
  go_upto_region 4 with (go_at_call 110;refine (HV.out _ da).mono ?_;rintro e w1 ⟨rfl,hb⟩;obtain ⟨k2,k3,k4,Rb⟩:=zA7 hb;have p0:w1.cell? ⟨w.1.size+1,0,vB⟩=vD (vd vq b):=k3.cell 0;have p1:w1.cell? ⟨w.1.size+1,1,vB⟩=vD (vd vq _):=k3.cell 1;have p2:w1.cell? ⟨w.1.size+1,2,vB⟩=vD (vd vq q):=k3.cell 2;have c2:=k2.cell;clear hb)
  have k2l:=k2.alloc (.cells #[vd vo p,vd vq b,vd vq q,vd vq k,vd vq 0,vd vq s,vd vq rows.length,vd vq 0,vd vq 0,vd vq 0,vd vq 0] 35);have k3l:=k3.alloc (.cells #[vd vo p,vd vq b,vd vq q,vd vq k,vd vq 0,vd vq s,vd vq rows.length,vd vq 0,vd vq 0,vd vq 0,vd vq 0] 35);have k4l:=k4.alloc (.cells #[vd vo p,vd vq b,vd vq q,vd vq k,vd vq 0,vd vq s,vd vq rows.length,vd vq 0,vd vq 0,vd vq 0,vd vq 0] 35);have k6:=Blk.new w1 35 #[vd vo p,vd vq b,vd vq q,vd vq k,vd vq 0,vd vq s,vd vq rows.length,vd vq 0,vd vq 0,vd vq 0,vd vq 0];have dc:=Rb.alloc Rb.size (.cells #[vd vo p,vd vq b,vd vq q,vd vq k,vd vq 0,vd vq s,vd vq rows.length,vd vq 0,vd vq 0,vd vq 0,vd vq 0] 35);have hg:=k4.lt;clear p0 p1 p2 k2 k3 k4 Rb c2;revert k2l k3l k4l k6 dc
  generalize w1.alloc _=wl;generalize w1.1.size=g at *;intro k2 k3 k4 k6 dc;have p0:wl.cell? ⟨w.1.size,0,vB⟩=vD (vd vo p):=k2.cell 0;have p1:wl.cell? ⟨w.1.size+1,1,vB⟩=vD (vd vq _):=k3.cell 1;have c6:=k6.cell;have f6:=k6.frozen;have n1:w.1.size+1≠g:=by omega
  have l1:=k3.lt;refine Pd (qO g 4) [5,8] [0,1,2,3,4,5,6,7,8] zK zK ?_;refine rM (Au g 4) ?_;intro Wc ja
  repeat ((first | refine qM (Au g 4) rfl rfl (fun _ _ _ h=>h) ?_ | (refine pM (v:=?_) (Au g 4) rfl rfl (fun _ _ _ h=>h) ?_ ?_;rotate_left;(· (intro w' hR;(first | have Us:=B8 (zM (Au g 4) ja hR) | skip);have oa:=C8 (zM (Au g 4) ja hR) k6;go_simp;try with_reducible rfl))));refine zPU ?_)
  refine ud (Au g 4) rfl rfl rfl ((HF.out _).mono ?_);rintro e w2 ⟨N,HN,uf,rfl,rfl⟩;refine ⟨_,rfl,(Au g 4).refl _,?_⟩;replace ja:=zM (Au g 4) ja ((Au g 4).refl _);refine zPU ?_;have XA:N <= 1281:=by omega
  obtain ⟨NN,pk⟩:=zEX (f N);rw [bJ.out] at pk;have eN2:=Xd NN;have eN1:=HBN.out N;rw [bJ.out,<- pk] at eN1
  try simp only [Ls] at eN1
  clear HBN;clear bJ;rw [HKK.out] at HN;replace HG:=zH (HG.out _ _ HN pk);replace HN:=zH HN;replace pk:=zH pk
  repeat ((first | refine qM (Au g 4) rfl rfl (fun _ _ _ h=>h) ?_ | (refine pM (v:=?_) (Au g 4) rfl rfl (fun _ _ _ h=>h) ?_ ?_;rotate_left;(· (intro w' hR;(first | have Us:=B8 (zM (Au g 4) ja hR) | skip);have oa:=C8 (zM (Au g 4) ja hR) k6;go_simp;try with_reducible rfl))));refine zPU ?_)
  have hNN2:NN <= 10248:=by omega
  obtain ⟨v,kv⟩:=ja.2 _ _ k6.drew;have cv:=kv.cell;have fv:=kv.frozen;refine ke (Au g 4) rfl rfl rfl ?_;go_simp;refine ⟨D8 _ _,?_⟩;replace ja:=zM (Au g 4) ja (D8 w2 (vd vq NN));replace kv:=kv.set_ 4 (vd vq NN);simp at kv
  refine Vc ?_;have n2:w.1.size+1+1≠g:=by omega
  have rF:w.1.size <= g:=by omega
  have n0:w.1.size≠g:=by omega
  have Cm:=ja.1;have ot:=k2.drew.grown Cm zT;have k4':=k4.drew.grown Cm zT;have il:=dc.drew.trans (dH Cm w.1.size (by simp;exact dc.size) (fun x hx=>by injection hx;omega))
  clear k2 k3 k4 dc Cm ja p0 p1 c6 f6 cv fv k6 l1 eN2 ek TJ ek3 es hand ep i1 i2 d1 d2 d4 d5 j1 hg n0 n1
  try clear eN1
  revert kv ot k4' il
  generalize w2.setCell _ _=wl;intro kv k2 k4 dc;have p0:wl.cell? ⟨w.1.size,0,vB⟩=vD (vd vo p):=k2.cell 0;have c6:=kv.cell;have f6:=kv.frozen;have c4:=k4.cell;have f4:=k4.frozen;have tf:0<NN:=by
   obtain ⟨⟨z,hz⟩,-⟩:=HN.out;have:0<2^z:=Nat.pow_pos zO;have:=pk.out;omega
  have ep:vo.wrap ((p:Int)-1)=(pm:Int):=by rw [HP.out.1];exact Ku p 1 (zQ HP.out.2) (Cc HT.out.1).2
  have eN:vo.wrap (NN:Int)=NN:=Wk _ zO;have q1:(0:Int)<b:=by have:=HB.out;omega
  have q2:¬((b:Int)=0):=by omega
  have q3:¬(b=0):=by omega
  have q4:(0:Int)<NN:=by omega
  have q5:¬((NN:Int)=0):=by omega
  have q6:¬(NN=0):=by omega
  have r1:(pm:Int)%(b:Int)=((pm%b:Nat):Int):=rfl;have r2:(pm:Int)%(NN:Int)=((pm%NN:Nat):Int):=rfl;have r3:(pm:Int).tmod (b:Int)=((pm%b:Nat):Int):=rfl;have r4:(pm:Int).tmod (NN:Int)=((pm%NN:Nat):Int):=rfl;have Uz:Hid (∀ {er:Int},(if pm%b≠0 \/ pm%NN≠0 \/ pm <= NN then (7:Int) else if 1024<NN then 3 else 0)=er -> er=uz X):=fun h=>h.symm.trans (HG.out.2).symm
  obtain ⟨x1,ld⟩:=zEX (pm%b);obtain ⟨x2,yf⟩:=zEX (pm%NN);rw [<- ld] at r1 r3;rw [<- yf] at r2 r4;have Wu:=zH ld.symm;have Wg:=zH yf.symm;clear ld yf;by_cases z1:x1=0
  ·subst z1
   by_cases z2:x2=0
   ·subst z2
    by_cases z3:pm <= NN
    ·have y1:decide ((pm:Int)<=NN)=true:=xc zO
     have y2:decide (pm <= NN)=true:=xc z3;go_wp2_with fail
     obtain ⟨wf,Yc,kW,hW⟩:=SB k4 dc;rw [Yc];clear Yc c4 f4 c6 f6 p0 k4 kv;have c4:=kW.cell;exact Uc (v:=.tuple #[vf Fh,vd vq 7]) (by simp [results,results73,go_sem,c4,Fh]) rfl ⟨⟨_,_,rfl, .inl ⟨zD,rfl,Uz.out (by rw [Lb (.inr (.inr z3))])⟩⟩,hW⟩
    ·have y1:decide ((pm:Int)<=NN)=false:=Xb zO
     have y2:decide (pm <= NN)=false:=Xb z3;by_cases z4:1024<NN
     ·have y3:decide ((1024:Int)<NN)=true:=xc zO
      have y4:decide (1024<NN)=true:=xc z4;go_wp2_with fail
      obtain ⟨wf,Yc,kW,hW⟩:=SB k4 dc;rw [Yc];clear Yc c4 f4 c6 f6 p0 k4 kv;have c4:=kW.cell;exact Uc (v:=.tuple #[vf Fh,vd vq 3]) (by simp [results,results73,go_sem,c4,Fh]) rfl ⟨⟨_,_,rfl, .inl ⟨zD,rfl,Uz.out (by rw [Gb (by rw [Wu.out,Wg.out];omega),Lb z4])⟩⟩,hW⟩
     ·have y3:decide ((1024:Int)<NN)=false:=Xb zO
      have y4:decide (1024<NN)=false:=Xb z4;have HU:=zH (fun w=>zBl rows.length b w (zQ HT.out) zO zO)
      have Uu:=zH (fun w=>zBl s b w (by have:=HT.out;have:=HS.out;omega) zO zO)
      have u1:(rows.length+b-1) / b <= 100000:=jb (GA _ _) zO;have u2:(s+b-1) / b <= 100000:=jb (GA _ _) (by have:=HT.out;have:=HS.out;omega)
      revert HU Uu u1 u2
      obtain ⟨ub,pL⟩:=zEX ((rows.length+b-1) / b);obtain ⟨ua,oL⟩:=zEX ((s+b-1) / b);rw [<- pL,<- oL];have HUB:=zH pL;have HUA:=zH oL;clear pL oL;intro HU Uu u1 u2;go_wp2_with fail
      refine (HU.out _).mono ?_;rintro e w5 ⟨rfl,rfl⟩;go_wp2_with fail
      refine (Uu.out _).mono ?_;rintro e w6 ⟨rfl,rfl⟩;go_wp2_with fail
      have k5:=(((k4.far (p:=⟨g,7,vB⟩) n2 (vd vq ua)).far (p:=⟨g,8,vB⟩) n2 (vd vq ub)).far (p:=⟨g,9,vB⟩) n2 (vd vq ub)).far (p:=⟨g,10,vB⟩) n2 (vd vq ub);have Bb:=(((dc.setCell (p:=⟨g,7,vB⟩) rF (vd vq ua)).setCell (p:=⟨g,8,vB⟩) rF (vd vq ub)).setCell (p:=⟨g,9,vB⟩) rF (vd vq ub)).setCell (p:=⟨g,10,vB⟩) rF (vd vq ub);obtain ⟨wf,Yc,kW,hW⟩:=kG k5 Bb p b q k NN s rows.length ua ub ub ub;rw [Yc];clear Yc c4 f4 c6 f6 p0 k4 kv k5 Bb;have c4:=kW.cell;have HL:Ad ⟨p,b,q,k,NN,s,rows.length,ua,ub⟩:=by
       have hB:=HB.out;have hQ:=HQ.out;have hT:=HT.out;obtain ⟨⟨z,hz⟩,Pg,-⟩:=HN.out;refine ⟨hT.1,hB.1,hB.2,hQ.1,hQ.2,HK.out,⟨z+t,?_⟩,by show NN <= 1024;omega,by have:=HS.out;show s <= 65536;omega,hT.2.2.2,u2,u1,oc.out,?_,?_,?_,?_,HUA.out,HUB.out⟩
       ·show NN=2^(z+t)
        rw [pk.out,hz,Nat.pow_add,<- HBT.out,xg]
       ·show (p-1)%b=0
        rw [<- HP.out.1];exact Wu.out
       ·show (p-1)%NN=0
        rw [<- HP.out.1];exact Wg.out
       ·show NN<p-1
        rw [<- HP.out.1];omega
       ·show 2*k <= NN
        have:=pk.out;have:=HK.out;omega
      have Fo:yy ⟨p,b,q,k,NN,s,rows.length,ua,ub⟩ X:=by
       have e1:((V:Int)-1-(U:Int)).toNat=s:=by have:=HS.out;omega
       have e5:=HG.out.1.symm;have e6:=Uz.out (by rw [Gb (by rw [Wu.out,Wg.out];omega),Gb z4])
       rw [HX.out] at e5 e6 |-;refine ⟨rfl,?_,e6.symm,by show (0:Int) <= U;omega,by have:=HT.out;show (U:Int)<V;omega⟩
       unfold qX;simp only [En,e1];rw [e5,HK.out,HUA.out,HUB.out]
      exact Uc (v:=.tuple #[vf (Ub ⟨p,b,q,k,NN,s,rows.length,ua,ub⟩),vd vq 0]) (by simp [results,results73,go_sem,c4,Ub]) rfl ⟨⟨_,_,rfl, .inr ⟨rfl,_,HL,Fo,rfl⟩⟩,hW⟩
   ·have y1:((x2:Int) != 0)=true:=by rw [dk];omega
    have y2:(x2 != 0)=true:=by rw [dk];exact z2
    go_wp2_with fail
    obtain ⟨wf,Yc,kW,hW⟩:=SB k4 dc;rw [Yc];clear Yc c4 f4 c6 f6 p0 k4 kv;have c4:=kW.cell;exact Uc (v:=.tuple #[vf Fh,vd vq 7]) (by simp [results,results73,go_sem,c4,Fh]) rfl ⟨⟨_,_,rfl, .inl ⟨zD,rfl,Uz.out (by rw [Lb (.inr (.inl (by rw [Wg.out];exact z2)))])⟩⟩,hW⟩
  ·have y1:((x1:Int) != 0)=true:=by rw [dk];omega
   have y2:(x1 != 0)=true:=by rw [dk];exact z1
   go_wp2_with fail
   obtain ⟨wf,Yc,kW,hW⟩:=SB k4 dc;rw [Yc];clear Yc c4 f4 c6 f6 p0 k4 kv;have c4:=kW.cell;exact Uc (v:=.tuple #[vf Fh,vd vq 7]) (by simp [results,results73,go_sem,c4,Fh]) rfl ⟨⟨_,_,rfl, .inl ⟨zD,rfl,Uz.out (by rw [Lb (.inl (by rw [Wu.out];exact z1))])⟩⟩,hW⟩
theorem Pb {w:vu} {A:Option vx} {n c:Nat} {l:List Nat} (h:RWd w [ve A n c] l):n=l.length /\ n <= c /\ c <= maxLen /\ (∀ x∈l,x<18446744073709551616) /\ Rd w 1 A n (Qa l):=by
 obtain ⟨A',n',c',he,h1,h2,h3,h4⟩:=h;simp at he
 obtain ⟨rfl,rfl,rfl⟩:=he;have:=h3.len1;rw [qt] at this;exact ⟨this.symm,h1,h2,h4,h3⟩
theorem Hf {w:vu} {A:Option vx} {l:List Nat} (h:Rd w 1 A l.length (Qa l)) {j:Nat} (hj:j<l.length):∃ b q,A=vD ⟨b,q,vB⟩ /\ b<w.1.size /\ w.cell? ⟨b,q+j,vB⟩=vD (vd vo ((l.getD j 0:Nat):Int)):=by
 obtain ⟨b,q,e,hb,hc⟩:=gG h zO;refine ⟨b,q,e,hb,?_⟩;rw [hc j hj,cH hj,Hc,Ec hj]
 rfl
theorem ti {n c:Nat} (h1:n <= c) (h2:c <= maxLen):(n:Int) <= 9223372036854775807:=by
 simp [maxLen] at h2
 omega
theorem CI {l:List Nat} {B:Nat} (h:∀ x∈l,x<B) {k:Nat} (hk:k<l.length):l.getD k 0<B:=by
 rw [Hc,Ec hk];exact h _ (Qe _)
theorem DI (l:List Nat) (k:Nat) (h:k<l.length):l.take (k+1)=l.take k++[l.getD k 0]:=by
 rw [Cy h,Hc,Ec h]
 rfl
theorem zEL {β:Type} (f:β -> Nat -> β) (b:β) (l:List Nat) (k:Nat) (h:k<l.length):(l.take (k+1)).foldl f b=f ((l.take k).foldl f b) (l.getD k 0):=by
 rw [DI l k h,List.foldl_append]
 rfl
theorem Sf {w:vu} {base:Nat} {e:vy} {A:Option vx} {c n:Nat} {l:List Nat} (h:w.ownsRow base e 1 (ve A n c) n (Qa l)) (hl:∀ x∈l,x<18446744073709551616):RWd w [ve A n c] l:=by
 obtain ⟨A',c',he,h1,h2,h3,-⟩:=Yb h;simp at he
 obtain ⟨rfl,rfl⟩:=he;exact ⟨A,n,c,rfl,h1,h2,h3,hl⟩
theorem ie {W W':vu} {B:Nat} {e:vy} {size:Nat} {v:vw} {n:Nat} {xs:List vw} (h:W.ownsRow B e size v n xs) (hg:W.grownBy W' v.ownBlock) (hB:B <= W.1.size):vz B W W' :=
 dH hg B hB fun g e=>(h.lt g e).1
theorem Qi {w:vu} {B m:Nat} {t:vy} {v:vw} {a b c:List Nat} (h:w.ownsRow B t 1 v m (Qa a++Qa b)) (e:a++b=c):w.ownsRow B t 1 v m (Qa c):=by
 rw [<- e,bZ];exact h
theorem uN {w:vu} {g:Nat} {t:vy} {l:List Nat} (h:Blk w g t (Qa l).toArray) (hl:∀ x∈l,x<18446744073709551616) (hm:l.length <= maxLen):RWd w [ve (vD ⟨g,0,vB⟩) l.length l.length] l:=by
 refine ⟨_,_,_,rfl,zR,hm,⟨by rw [qt,Ns],fun _=>⟨_,rfl,fun j u hu=>?_⟩⟩,hl⟩
 rw [jv,Re,h.cell]
 simpa using hu
def Ya (n:Nat) (f:Nat -> Nat):Array vw:=((List.range n).map fun k=>vd vo (f k:Int)).toArray
def sg (f:Nat -> Nat) (k v:Nat):Nat -> Nat:=fun i=>if i=k then v else f i
theorem Ei {n k:Nat} (f:Nat -> Nat) (h:k<n):(Ya n f)[k]?=vD (vd vo (f k:Int)):=by simp [Ya,h]
theorem iq {n:Nat} {f g:Nat -> Nat} (h:∀ i,i<n -> f i=g i):Ya n f=Ya n g:=by
 unfold Ya
 congr 1
 exact Nw fun i hi=>by rw [h i (Mj.1 hi)]
theorem Tt {n:Nat} (f:Nat -> Nat) (k v:Nat):(Ya n f).setIfInBounds k (vd vo v)=Ya n (sg f k v):=by
 apply Array.ext
 ·simp [Ya]
 ·intro i h1 h2
  simp [Ya] at h1 h2
  rw [Array.getElem_setIfInBounds (by simpa [Ya] using h1)]
  simp only [Ya,sg];split
  ·subst_vars;simp
  ·rename_i db
   simp [show ¬i=k from fun e=>db e.symm]
theorem TE (n:Nat) (f:Nat -> Nat):Ya n f=(Qa ((List.range n).map f)).toArray:=by simp [Ya,Qa]
theorem UE {w:vu} {g n:Nat} {t:vy} {f:Nat -> Nat} (h:Blk w g t (Ya n f)) (hf:∀ i,i<n -> f i<18446744073709551616) (hn:n <= maxLen):RWd w [ve (vD ⟨g,0,vB⟩) n n] ((List.range n).map f):=by
 rw [TE] at h;have:=uN h (fun x hx=>by
  obtain ⟨i,hi,rfl⟩:=ee.1 hx;exact hf i (Mj.1 hi)) (by simpa using hn)
 simpa using this
theorem aQ {P:Program} {t e:vy} {size bytes:Nat} {z:vw} (E:Ds P t e size bytes z) (n:Nat) (hb:bytes*n <= 281474976710656) (hn:(n:Int) <= 9223372036854775807) (w:vu) :
  (Instr.makeSlice t (vd vq n) (vd vq n)).run P w= .ok (ve (vD ⟨w.1.size,0,vB⟩) n n) (w.alloc (.cells (madeCells z.cells (n*size)) e)):=by
 obtain ⟨ht,⟨i,hi,hz,hs,jF⟩,vL,Db⟩:=E;have:=run_make (P:=P) w t e i z ht hi hz vq vq (n:Int) (n:Int) zO (Int.le_refl _) (by rw [jF,<- Vh];exact Int.ofNat_le.2 hb) hn
 rw [En,hs] at this;exact this
theorem zET (n:Nat):madeCells (vd vo 0).cells (n*1)=Ya n fun _=>0:=by
 apply Array.toList_inj.1
 rw [show (vd vo 0).cells=#[vd vo 0] from rfl,toList_madeCells_one]
 exact List.ext_getElem (by simp [Ya]) fun i h1 h2=>by simp [Ya]
theorem info_w:(prog.info? 22).map (fun i=>(i.zero,i.size,i.bytes))=vD (vD (vd vo 0),1,8):=by kernel_rfl
theorem jg:Ds prog 28 22 1 8 (vd vo 0):=by
 obtain ⟨i0,hi,Hi,Vd,Pg⟩:=info_parts info_w;exact ⟨underlying28,⟨i0,hi,Hi,Vd,Pg⟩,rfl,zO⟩
theorem Rv (n:Nat) (hn:n <= 1000000) (w:vu) :
  (Instr.makeSlice 28 (vd vq n) (vd vq n)).run prog w= .ok (ve (vD ⟨w.1.size,0,vB⟩) n n) (w.alloc (.cells (Ya n fun _=>0) 22)):=by
 have:=aQ (P:=prog) jg n zO zO w;rw [zET] at this;exact this
theorem r9 (p r a e n:Nat) (h:r*a^e%p=n) (he:e%2=1):(r*a%p)*(a*a%p)^(e / 2)%p=n:=by
 have h2:e=2*(e / 2)+1:=by omega
 rw [<- h,Nat.mul_mod,Nat.mod_mod,<- Nat.pow_mod,<- Nat.mul_mod]
 conv=>rhs;rw [h2,Zg,Nat.pow_mul,Nat.pow_two,xg _ a,<- Nat.mul_assoc]
theorem p9 (p r a e n:Nat) (h:r*a^e%p=n) (he:e%2=0):r*(a*a%p)^(e / 2)%p=n:=by
 have h2:e=2*(e / 2):=by omega
 rw [<- h,Nat.mul_mod,<- Nat.pow_mod,<- Nat.mul_mod]
 conv=>rhs;rw [h2,Nat.pow_mul,Nat.pow_two]
theorem FV (p a e:Nat) (w:vu) (hp:jc p=true) (ha:a<p) (he:e<18446744073709551616) :
  vA prog 281 #[fv p,vd vo a,vd vo e] w fun e' w'=>e'=vn (vd vo ((a^e%p:Nat):Int)) /\ vz w.1.size w w':=by
 have Og:1<p:=by have:=Cc hp;omega
 have HM:=zH (fun a b w (h1:a<p) (h2:b<p)=>EV p a b w hp h1 h2)
 obtain ⟨n,hn⟩:=zEX (a^e%p);rw [<- hn];have HI:=zH (show 1*a^e%p=n by rw [Nat.one_mul,hn])
 have HP:=zH Og;clear hn hp Og;unfold fv at *;obtain ⟨kf,da⟩:=zN w 224 #[vd vo p];go_enter func281,ntmps281
 go_wp2_with fail
 generalize w.alloc _=w0 at da kf |-;go_loopw [1,2,7] (fun x y z wr=>∃ a' e' r:Nat,x=vd vo a' /\ y=vd vo e' /\ z=vd vo r /\ a'<p /\ r<p /\ e'<18446744073709551616 /\ Hid (r*a'^e'%p=n) /\ vz w0.1.size w0 wr) (fun _ y _ _=>(intOf y).toNat)
 case atStart=>exact ⟨a,e,1,rfl,rfl,rfl,ha,HP.out,he,HI.out,Kb _ _⟩
 case round =>
  obtain ⟨a',e',r,rfl,rfl,rfl,Ry,fp,he',H,tb⟩:=hrel;have LF:=pa kf tb;have cf:=LF.cell;by_cases h0:e'=0
  ·subst h0
   have HE:=zH (show r=n by have:=H.out;rw [Nat.pow_zero,Ns,Lk fp] at this;exact this)
   go_wp2;go_ret
   exact ⟨by rw [HE.out];rfl,da.trans (tb.mono da.size)⟩
  ·have g1:(0:Int)<e':=by omega
   obtain ⟨f,hf⟩:=zEX (e' / 2);have e1:(e':Int) / 2=(f:Int):=by omega
   have eb:bits BinOp.and vo (e':Int) 1=((e'%2:Nat):Int):=by
    have:=bits_and_u64_nat e' 1 he' zO;rw [Nat.and_one_is_mod] at this;exact this
   rcases (show e'%2=1 \/ e'%2=0 by omega) with Fx | Fx
   ·rw [Fx] at eb
    have HF:=zH hf;have Kf:=zH (fun w=>HM.out r a' w fp Ry)
    have HX:=r9 p r a' e' n H.out Fx;rw [<- hf] at HX;have Fg:r*a'%p<p:=Sc _ (zQ HP.out);generalize r*a'%p=s at *;have zJ:=fun (Hv:f=0)=>show s*a'^f%p=n by rw [Hv,Nat.pow_zero] at HX |-;exact HX
    replace HX:=zH HX;replace zJ:=zH zJ;clear Fx hf;go_wp2_with fail
    refine (Kf.out _).mono ?_;rintro e w1 ⟨rfl,Oa⟩;replace LF:=LF.below Oa LF.lt;replace tb:=Nk tb Oa tb.size;clear cf Oa;have cf:=LF.cell;by_cases Hv:f=0
    ·have d3:decide (0<f)=false:=Xb zO
     have Es:=zH Hv;clear Hv;go_wp2_with fail
     go_roundw
     case rel=>exact ⟨a',f,s,rfl,rfl,rfl,Ry,Fg,by have:=HF.out;omega,zJ.out Es.out,tb⟩
     case measure=>have:=HF.out;simp [intOf];omega
    ·have g3:(0:Int)<f:=by omega
     have HQ:=zH (fun w=>HM.out a' a' w Ry Ry)
     have mo:a'*a'%p<p:=Sc _ (zQ HP.out);have jy:=zH HX.out;generalize a'*a'%p=q at *;go_wp2_with fail
     refine (HQ.out _).mono ?_;rintro e w2 ⟨rfl,Fa⟩;replace tb:=Nk tb Fa tb.size;go_wp2
     go_roundw
     case rel=>exact ⟨q,f,s,rfl,rfl,rfl,mo,Fg,by have:=HF.out;omega,jy.out,tb⟩
     case measure=>have:=HF.out;simp [intOf];omega
   ·rw [Fx] at eb
    have HF:=zH hf;have HX:=p9 p r a' e' n H.out Fx;rw [<- hf] at HX;have zJ:=fun (Hv:f=0)=>show r*a'^f%p=n by rw [Hv,Nat.pow_zero] at HX |-;exact HX
    replace HX:=zH HX;replace zJ:=zH zJ;clear Fx hf;by_cases Hv:f=0
    ·have d3:decide (0<f)=false:=Xb zO
     have Es:=zH Hv;clear Hv;go_wp2_with fail
     go_roundw
     case rel=>exact ⟨a',f,r,rfl,rfl,rfl,Ry,fp,by have:=HF.out;omega,zJ.out Es.out,tb⟩
     case measure=>have:=HF.out;simp [intOf];omega
    ·have g3:(0:Int)<f:=by omega
     have HQ:=zH (fun w=>HM.out a' a' w Ry Ry)
     have mo:a'*a'%p<p:=Sc _ (zQ HP.out);have jy:=zH HX.out;generalize a'*a'%p=q at *;go_wp2_with fail
     refine (HQ.out _).mono ?_;rintro e w2 ⟨rfl,Fa⟩;replace tb:=Nk tb Fa tb.size;go_wp2
     go_roundw
     case rel=>exact ⟨q,f,r,rfl,rfl,rfl,mo,fp,by have:=HF.out;omega,jy.out,tb⟩
     case measure=>have:=HF.out;simp [intOf];omega
theorem UC (p a b:Nat) (w:vu) (hp:jc p=true) :
  vA prog 142 #[fv p,vd vo a,vd vo b] w fun e w'=>e=vn (vd vo ((a*b%p:Nat):Int)) /\ vz w.1.size w w':=by
 have Og:0<p:=by have:=Cc hp;omega
 have HV:=zH (fun w=>qv p w hp)
 have HA:=zH (fun w=>mH p a w Og)
 have HB:=zH (fun w=>mH p b w Og)
 have HS:=zH (fun w=>EV p (a%p) (b%p) w hp (Sc _ Og) (Sc _ Og))
 rw [<- Nat.mul_mod] at HS;clear hp Og;generalize a*b%p=r at *;generalize a%p=x at *;generalize b%p=y at *;unfold fv at *;obtain ⟨kf,da⟩:=zN w 224 #[vd vo p];go_enter func142,ntmps142
 go_wp2_with fail
 refine (HV.out _).mono ?_;rintro e' w1 ⟨rfl,Oa⟩;replace kf:=pa kf Oa;replace da:=ta da Oa;clear Oa;have cf:=kf.cell;have lf:=kf.lt;go_wp2_with fail
 refine tg (Rc) (Da) [] [] [0,1,2,3,4,5,6,7,8] zK zK ?_;refine ug (Da) ?_;intro Wc ja;refine Cf ?_;refine yd Da rfl rfl rfl rfl (fun w' hR=>HA.out _) ?_
 refine zPU ?_;refine Cf ?_;refine yd Da rfl rfl rfl rfl (fun w' hR=>HB.out _) ?_
 refine zPU ?_;refine Cf ?_;refine yd Da rfl rfl rfl rfl (fun w' hR=>HS.out _) ?_
 refine zPU ?_;refine Cf ?_;refine dw rfl ?_;intro wd Le;replace ja:=zM Da ja Le;clear Le;go_wp2;go_ret
 exact ⟨rfl,ta da.drew ja⟩
theorem zC3 (p a n:Nat) (w:vu) (hp:jc p=true) (hn:n<18446744073709551616) :
  vA prog 314 #[fv p,vd vo a,vd vo n] w fun e w'=>e=vn (vd vo ((a^n%p:Nat):Int)) /\ vz w.1.size w w':=by
 have Og:0<p:=by have:=Cc hp;omega
 have HV:=zH (fun w=>qv p w hp)
 have HA:=zH (fun w=>mH p a w Og)
 have HS:=zH (fun w=>FV p (a%p) n w hp (Sc _ Og) hn)
 rw [<- Nat.pow_mod] at HS;clear hp Og hn;generalize a^n%p=r at *;generalize a%p=x at *;unfold fv at *;obtain ⟨kf,da⟩:=zN w 224 #[vd vo p];go_enter func314,ntmps314
 go_wp2_with fail
 refine (HV.out _).mono ?_;rintro e' w1 ⟨rfl,Oa⟩;replace kf:=pa kf Oa;replace da:=ta da Oa;clear Oa;have cf:=kf.cell;have lf:=kf.lt;go_wp2_with fail
 refine tg (Rc) (Da) [] [] [0,1,2,3,4,5,6] zK zK ?_;refine ug (Da) ?_;intro Wc ja;refine Cf ?_;refine yd Da rfl rfl rfl rfl (fun w' hR=>HA.out _) ?_
 refine zPU ?_;refine Cf ?_;refine yd Da rfl rfl rfl rfl (fun w' hR=>HS.out _) ?_
 refine zPU ?_;refine Cf ?_;refine dw rfl ?_;intro wd Le;replace ja:=zM Da ja Le;clear Le;go_wp2;go_ret
 exact ⟨rfl,ta da.drew ja⟩
theorem C1 (p a:Nat) (w:vu) (hp:jc p=true) :
  vA prog 230 #[fv p,vd vo a] w fun e w'=>e=vn (vd vo ((a^(p-2)%p:Nat):Int)) /\ vz w.1.size w w':=by
 obtain ⟨Sd,Vb⟩:=Cc hp;have HV:=zH (fun w=>qv p w hp)
 have HA:=zH (fun w=>mH p a w zO)
 have HS:=zH (fun w=>FV p (a%p) (p-2) w hp (Sc _ zO) zO)
 have e1:vo.wrap ((p:Int)-2)=((p-2:Nat):Int):=Ku p 2 zO Vb;have e2:(p:Int)-2=((p-2:Nat):Int):=by omega
 have e3:vo.wrap ((p-2:Nat):Int)=((p-2:Nat):Int):=Wk _ zO;rw [<- Nat.pow_mod] at HS;clear hp Sd Vb;generalize a^(p-2)%p=r at *;generalize a%p=x at *;generalize p-2=m at *;unfold fv at *;obtain ⟨kf,da⟩:=zN w 224 #[vd vo p];go_enter func230,ntmps230
 go_wp2_with fail
 refine (HV.out _).mono ?_;rintro e' w1 ⟨rfl,Oa⟩;replace kf:=pa kf Oa;replace da:=ta da Oa;clear Oa;have cf:=kf.cell;have lf:=kf.lt;go_wp2_with fail
 refine tg (Rc) (Da) [] [] [0,1,2,3,4,5,6,7,8] zK zK ?_;refine ug (Da) ?_;intro Wc ja;refine Cf ?_;refine yd Da rfl rfl rfl rfl (fun w' hR=>HA.out _) ?_
 refine zPU ?_;refine Cf ?_;refine yd Da rfl rfl rfl rfl (fun w' hR=>HS.out _) ?_
 refine zPU ?_;refine Cf ?_;refine dw rfl ?_;intro wd Le;replace ja:=zM Da ja Le;clear Le;go_wp2;go_ret
 exact ⟨rfl,ta da.drew ja⟩
def qg (p a:Nat):Nat:=if a%p=0 then 0 else p-a%p
theorem E1 (p a:Nat) (w:vu) (hp:jc p=true) :
  vA prog 147 #[fv p,vd vo a] w fun e w'=>e=vn (vd vo (qg p a:Int)) /\ vz w.1.size w w':=by
 obtain ⟨Sd,Vb⟩:=Cc hp;have HA:=zH (fun w=>NR p a w hp)
 have hx:a%p<p:=Sc _ zO;have HN:=zH (show qg p a=if a%p=0 then 0 else p-a%p from rfl)
 clear hp;generalize qg p a=r at *;generalize a%p=x at *;by_cases h0:x=0
 ·have HR:=zH (show r=0 by rw [HN.out,Lb h0])
  subst h0;unfold fv at *;obtain ⟨kf,da⟩:=zN w 224 #[vd vo p];go_enter func147,ntmps147
  go_wp2_with fail
  refine (HA.out _).mono ?_;rintro e' w1 ⟨rfl,Oa⟩;go_wp2;go_ret
  exact ⟨by rw [HR.out];rfl,ta da Oa⟩
 ·have HR:=zH (show r=p-x by rw [HN.out,Gb h0])
  have d1:((x:Int) == 0)=false:=by rw [Ke];omega
  have e1:vo.wrap ((p:Int)-x)=((p-x:Nat):Int):=Ku p x zO Vb;rw [HR.out];clear hx Sd Vb h0 HR HN;generalize p-x=z at *;unfold fv at *;obtain ⟨kf,da⟩:=zN w 224 #[vd vo p];go_enter func147,ntmps147
  go_wp2_with fail
  refine (HA.out _).mono ?_;rintro e' w1 ⟨rfl,Oa⟩;replace kf:=pa kf Oa;have cf:=kf.cell;go_wp2;go_ret
  exact ⟨rfl,ta da Oa⟩
theorem OR (p a b:Nat) (w:vu) (hp:jc p=true) :
  vA prog 219 #[fv p,vd vo a,vd vo b] w fun e w'=>e=vn (vd vo (((a+qg p b)%p:Nat):Int)) /\ vz w.1.size w w':=by
 have HN:=zH (fun w=>E1 p b w hp)
 have HS:=zH (fun w=>Rt p a (qg p b) w hp)
 clear hp;generalize (a+qg p b)%p=r at *;generalize qg p b=x at *;unfold fv at *;obtain ⟨kf,da⟩:=zN w 224 #[vd vo p];go_enter func219,ntmps219
 have cf:=kf.cell;have lf:=kf.lt;go_wp2_with fail
 refine tg (Rc) (Da) [] [] [0,1,2,3,4,5,6] zK zK ?_;refine ug (Da) ?_;intro Wc ja;refine Cf ?_;refine yd Da rfl rfl rfl rfl (fun w' hR=>HN.out _) ?_
 refine zPU ?_;refine Cf ?_;refine yd Da rfl rfl rfl rfl (fun w' hR=>HS.out _) ?_
 refine zPU ?_;refine Cf ?_;refine dw rfl ?_;intro wd Le;replace ja:=zM Da ja Le;clear Le;go_wp2;go_ret
 exact ⟨rfl,ta da.drew ja⟩
def Kd (w:vu) (cs:List vw) (l:List (List Nat)):Prop:=RSl 1 RWd w cs l
theorem zEl:DA Kd:=Qg rD
theorem Gk {w w1:vu} {v:List vw} {l:List (List Nat)} (h:vz w.1.size w w1) (r:Kd w v l):Kd w1 v l:=zEl _ _ _ _ h r
theorem Ig {w:vu} {A:Option vx} {n c:Nat} {l:List (List Nat)} (h:Kd w [ve A n c] l):l.length=n /\ n <= c /\ c <= maxLen /\ RdL w 1 RWd A l:=by
 obtain ⟨A',n',c',he,h1,h2,h3,h4⟩:=h;simp at he
 obtain ⟨rfl,rfl,rfl⟩:=he;exact ⟨h1,h2,h3,h4⟩
theorem zHZ {w:vu} {A:Option vx} {l:List (List Nat)} (h:RdL w 1 RWd A l) (hl:0<l.length):∃ b q,A=vD ⟨b,q,vB⟩:=by
 obtain ⟨a,cs,e,h1,hc,-⟩:=h 0 hl;have h0:=hc 0 zO;rw [Ec zO] at h0;have hs:=World.cell?_spot h0;obtain ⟨b,q,s⟩:=a;cases s with
 | none=>exact ⟨b,q,e⟩
 | some x=>simp [Addr.add] at hs
theorem Dl {w:vu} {A:Option vx} {l:List (List Nat)} (h:RdL w 1 RWd A l) {i:Nat} (hi:i<l.length) :
  ∃ b q A1 n1 c1,A=vD ⟨b,q,vB⟩ /\ b<w.1.size /\ w.cell? ⟨b,q+i,vB⟩=vD (ve A1 n1 c1) /\ RWd w [ve A1 n1 c1] l[i]:=by
 obtain ⟨a,cs,e,hl,hc,hr⟩:=h i hi;have fp:=hr;obtain ⟨A1,n1,c1,rfl,-⟩:=fp;obtain ⟨b,q,ha⟩:=zHZ h zO;rw [e] at ha;obtain rfl:=Nb ha;have h0:=hc 0 zO;have e0:(⟨b,q,vB⟩:vx).add (i*1+0)=⟨b,q+i,vB⟩:=by rw [jv];simp
 rw [e0] at h0;exact ⟨b,q,A1,n1,c1,e,Bg _ _ h0,h0,hr⟩
def sh (N:Nat) (gb:Option Nat) (w:vu) (v:vw) (l:List Nat):Prop:=∀ u:vu,(∀ b,N <= b -> b<w.1.size -> vD b≠gb -> u.1[b]?=w.1[b]?) -> RWd u [v] l
def gh (N:Nat) (w:vu) (v:vw) (cs:List vw) (l:List (List Nat)):Prop:=cs.length=l.length /\ ∀ (i:Nat) (h1:i<cs.length) (h2:i<l.length),sh N v.ownBlock w cs[i] l[i]
theorem tH (N:Nat) (w:vu) (v:vw):gh N w v [] []:=⟨rfl,fun i h=>by simp at h⟩
theorem Lm {N:Nat} {gb:Option Nat} {w w':vu} {v:vw} {l:List Nat} (h:sh N gb w v l) (hs:w.1.size <= w'.1.size) (hw:∀ b,N <= b -> b<w.1.size -> vD b≠gb -> w'.1[b]?=w.1[b]?):sh N gb w' v l :=
 fun u hu=>h u fun b h1 h2 h3=>(hu b h1 zO h3).trans (hw b h1 h2 h3)
theorem bP {N:Nat} {w w':vu} {v:vw} {cs:List vw} {l:List (List Nat)} (h:gh N w v cs l) (hs:w.1.size <= w'.1.size) (hw:∀ b,N <= b -> b<w.1.size -> vD b≠v.ownBlock -> w'.1[b]?=w.1[b]?):gh N w' v cs l :=
 ⟨h.1,fun i h1 h2=>Lm (h.2 i h1 h2) hs hw⟩
theorem Ef {N:Nat} {w w':vu} {v:vw} {cs:List vw} {l:List (List Nat)} (h:gh N w v cs l) (hb:vz w.1.size w w'):gh N w' v cs l :=
 bP h hb.size fun b _ h2 _=>hb.block b h2
theorem cN {N g:Nat} {w w':vu} {v:vw} {cs:List vw} {l:List (List Nat)} (h:gh N w v cs l) (hg:w.grownBy w' (vD g)) (hN:g<N):gh N w' v cs l :=
 bP h hg.size fun b h1 h2 _=>hg.block b h2 fun e=>by have:=Nb e;omega
theorem Dz {N base n:Nat} {w:vu} {gb:Option Nat} {e:vy} {x:vw} {l:List Nat} (h:w.ownsRow base e 1 x n (Qa l)) (hl:∀ y∈l,y<18446744073709551616) (hN:N <= base) (hg:∀ q,gb=vD q -> q<base):sh N gb w x l:=by
 intro u hu;have ho:=own_agree' h fun b h1 h2=>hu b zO h2 fun e=>by have:=hg b e.symm;omega
 obtain ⟨A,c,rfl,-⟩:=Yb ho;exact Sf ho hl
where
 own_agree' {w u:vu} {base:Nat} {e:vy} {size:Nat} {v:vw} {n:Nat} {xs:List vw} (h:w.ownsRow base e size v n xs) (ha:∀ b,base <= b -> b<w.1.size -> u.1[b]?=w.1[b]?):u.ownsRow base e size v n xs:=by
  obtain ⟨h1,h2⟩:=h;refine ⟨h1,?_⟩;rcases h2 with h2 | ⟨g,cap,cur,hv,Cm,hh,r⟩
  ·exact Or.inl h2
  ·exact Or.inr ⟨g,cap,cur,hv,Cm,by rw [ha g Cm (Yx.1 hh).1];exact hh,r⟩
theorem YC {N:Nat} {w w':vu} {v v' x:vw} {cs:List vw} {l:List (List Nat)} {y:List Nat} (h:gh N w v cs l) (hx:sh N v.ownBlock w x y) (hg:w.grownBy w' v.ownBlock) (hv:v'.ownBlock=v.ownBlock \/ v'.ownBlock=vD w.1.size):gh N w' v' (cs++[x]) (l++[y]):=by
 have key:∀ {z:vw} {m:List Nat},sh N v.ownBlock w z m -> sh N v'.ownBlock w' z m:=fun {z m} hz u hu=>by
  refine hz u fun b h1 h2 h3=>?_
  refine (hu b h1 (zQ hg.size) ?_).trans (hg.block b h2 (fun e=>h3 e))
  rcases hv with e | e
  ·rw [e];exact h3
  ·rw [e];intro e2;have:=Nb e2;omega
 refine ⟨by simp [h.1],fun i h1 h2=>?_⟩
 by_cases hi:i<cs.length
 ·rw [EA hi,EA (zQ h.1)]
  exact key (h.2 i hi _)
 ·have e1:i=cs.length:=by simp at h1;omega
  have e2:(cs++[x])[i]=x:=by subst e1;simp
  have e3:(l++[y])[i]=y:=by
   have:i=l.length:=by rw [e1,h.1]
   subst this;simp
  rw [e2,e3];exact key hx
theorem sH {N base n:Nat} {w:vu} {e:vy} {v:vw} {cs:List vw} {l:List (List Nat)} (h:gh N w v cs l) (ho:w.ownsRow base e 1 v n cs):Kd w [v] l:=by
 obtain ⟨A,c,rfl,h1,h2,hr,-⟩:=Yb ho;have hn:cs.length=n:=by have:=ho.1;omega
 refine ⟨A,n,c,rfl,by rw [<- h.1,hn],h1,h2,fun i hi=>?_⟩
 have Ff:i<cs.length:=by rw [h.1];exact hi
 obtain ⟨b,q,hA,hb,hc⟩:=gG hr zO;refine ⟨_,[cs[i]],hA,rfl,fun j hj=>?_,h.2 i Ff hi w fun _ _ _ _=>rfl⟩
 obtain rfl:j=0:=by omega
 rw [jv,show q+(i*1+0)=q+i by omega,hc i zO,Ec Ff]
 rfl
structure St where
 a:Nat
 b:Nat
 c:Nat
def St.val (s:St):vw:=vf #[vd vo s.a,vd vo s.b,vd vo s.c]
def St.cs (s:St):Array vw:=#[vd vo s.a,vd vo s.b,vd vo s.c]
def St.ok (s:St):Prop:=s.a<18446744073709551616 /\ s.b<18446744073709551616 /\ s.c<18446744073709551616
def Sv (k:Nat):Nat:=k*11400714819323198485%18446744073709551616
def Ot (p r i:Nat):Nat:=Sv (3*r+i+1)%p
def Cq (p:Nat) (s:St):Nat:=((s.a+s.b)%p+s.c)%p
def RF (p:Nat) (s:St):St:=⟨(s.a+Cq p s)%p,(s.b+Cq p s)%p,(s.c+Cq p s)%p⟩
theorem zFQ (p r i:Nat) (w:vu) (hp:jc p=true) (hr:r<8) (hi:i<3) :
  vA prog 315 #[vd vo p,vd vq r,vd vq i] w fun e w'=>e=vn (vd vo (Ot p r i:Int)) /\ vz w.1.size w w':=by
 have HR:=zH (fun w=>NR p (Sv (3*r+i+1)) w hp)
 have HC:=zH (show Ot p r i=Sv (3*r+i+1)%p from rfl)
 rw [HC.out];clear HC hp;obtain ⟨k,hk⟩:=zEX (3*r+i+1);rw [<- hk] at HR |-;have g1:(r:Int)<8:=by omega
 have g2:(i:Int) <= 2:=by omega
 have e1:3*(r:Int)+i+1=(k:Int):=by omega
 have e2:vo.wrap (k:Int)=k:=Wk _ zO;have e3:vo.wrap ((k:Int)*11400714819323198485)=(Sv k:Int):=by
  rw [mh];have:((k:Int)*11400714819323198485)=((k*11400714819323198485:Nat):Int):=by rw [Vh];rfl
  rw [this]
  rfl
 clear hk hr hi;generalize Sv k%p=m at *;generalize Sv k=z at *;unfold fv at *;go_enter func315,ntmps315
 go_wp2_with fail
 refine (HR.out _).mono ?_;rintro e w1 ⟨rfl,hb⟩;go_wp2;go_ret
 exact ⟨rfl,hb⟩
theorem zFT (p:Nat) (s:St) (w:vu) (hp:jc p=true) :
  vA prog 316 #[vd vo p,s.val] w fun e w'=>e=vn (RF p s).val /\ vz w.1.size w w':=by
 obtain ⟨a,b,c⟩:=s;have H1:=zH (fun w=>Rt p a b w hp)
 have H2:=zH (fun w=>Rt p ((a+b)%p) c w hp)
 have H3:=zH (fun w=>Rt p a (Cq p ⟨a,b,c⟩) w hp)
 have H4:=zH (fun w=>Rt p b (Cq p ⟨a,b,c⟩) w hp)
 have H5:=zH (fun w=>Rt p c (Cq p ⟨a,b,c⟩) w hp)
 have HM:=zH (show (RF p ⟨a,b,c⟩).val=vf #[vd vo (((a+Cq p ⟨a,b,c⟩)%p:Nat):Int),vd vo (((b+Cq p ⟨a,b,c⟩)%p:Nat):Int),vd vo (((c+Cq p ⟨a,b,c⟩)%p:Nat):Int)] from rfl)
 rw [HM.out];have HS:=zH (show ((a+b)%p+c)%p=Cq p ⟨a,b,c⟩ from rfl)
 rw [HS.out] at H2;clear HM HS hp;generalize (a+Cq p ⟨a,b,c⟩)%p=x at *;generalize (b+Cq p ⟨a,b,c⟩)%p=y at *;generalize (c+Cq p ⟨a,b,c⟩)%p=z at *;generalize Cq p ⟨a,b,c⟩=m at *;generalize (a+b)%p=ab at *;unfold St.val;unfold fv at *;simp only;obtain ⟨k1,k2,k3,da,Db⟩:=Sw w 298 298 224 #[vd vo a,vd vo b,vd vo c] #[vd vo 0,vd vo 0,vd vo 0] #[vd vo p];go_enter func316,ntmps316
 go_wp2_with fail
 generalize ((w.alloc _).alloc _).alloc _=w0 at k1 k2 k3 da Db |-;have c1:=k1.cell;have c3:=k3.cell;have l1:=k1.lt;have l3:=k3.lt;refine tg (Rc) (Da) [] [] [0,1,2,3,4,5,6,7,8,9,10] zK zK ?_;refine ug (Da) ?_;intro Wc ja;refine Cf ?_;refine yd Da rfl rfl rfl rfl (fun w' hR=>H1.out _) ?_
 refine zPU ?_;refine Cf ?_;refine yd Da rfl rfl rfl rfl (fun w' hR=>H2.out _) ?_
 refine zPU ?_;refine Cf ?_;refine dw rfl ?_;intro wd Le;replace ja:=zM Da ja Le;clear Le;replace k1:=k1.drew.below ja k1.lt;replace k2:=k2.drew.below ja k2.lt;replace k3:=k3.drew.below ja k3.lt;replace da:=ta da.drew ja;have nD:w.1.size+1<wd.1.size:=k2.lt;clear c1 c3 l1 l3 ja Db H1 H2;have c1:=k1.cell;have c3:=k3.cell;have l1:=k1.lt;have l3:=k3.lt;go_wp2_with fail
 refine tg (Rc) (Da) [16] [16] [0,1,2,3,4,5,6,7,8,9,10,11,12,13,14,15,16] zK zK ?_;refine ug (Da) ?_;intro Wc ja;refine Cd ?_;refine yd Da rfl rfl rfl rfl (fun w' hR=>H3.out _) ?_
 refine zPU ?_;refine Cd ?_;refine yd Da rfl rfl rfl rfl (fun w' hR=>H4.out _) ?_
 refine zPU ?_;refine Cd ?_;refine yd Da rfl rfl rfl rfl (fun w' hR=>H5.out _) ?_
 refine zPU ?_;refine Cd ?_;refine Xj rfl rfl rfl rfl ?_;intro wh Tc;replace ja:=zM Da ja Tc;replace k2:=k2.drew.below ja k2.lt;replace da:=ta da.drew ja;have c2:=k2.cell;have f2:=k2.frozen;have l2:=k2.lt;go_simp;refine ⟨fun h=>Bool.noConfusion h,?_⟩
 have hg:=Ep (w:=wh) (g:=w.1.size+1) (vd vo x) (vd vo y) (vd vo z);have kz:=Dp k2 (vd vo x) (vd vo y) (vd vo z);clear c2 f2 k2;generalize ((vE wh _ _).setCell _ _).setCell _ _=Wf at hg kz |-;have cz:=kz.cell;refine Fk rfl ?_;go_wp2;exact Uc (v:=vf #[vd vo x,vd vo y,vd vo z]) (by simp [results,results316,go_sem,cz]) rfl ⟨rfl,da.trans (om hg zO zO)⟩
def Eu (p r i x:Nat):Nat:=((x+Ot p r i)%p)^(pc p).2.2%p
def St.at_ (s:St) (i:Nat):Nat:=if i=0 then s.a else if i=1 then s.b else s.c
def Gz (f:Nat -> Nat -> Nat) (s:St):Nat -> St
 | 0=>s
 | 1=>⟨f 0 s.a,s.b,s.c⟩
 | 2=>⟨f 0 s.a,f 1 s.b,s.c⟩
 | _=>⟨f 0 s.a,f 1 s.b,f 2 s.c⟩
def roundP (p r:Nat) (s:St):St:=RF p (Gz (Eu p r) s 3)
def tt (p:Nat) (s:St):Nat -> St
 | 0=>s
 | r+1=>roundP p r (tt p s r)
def Cu (p:Nat) (s:St):St:=tt p s 8
theorem St.cs_at (s:St) {i:Nat} (h:i<3):s.cs[i]?=vD (vd vo (s.at_ i:Int)):=by
 rcases (show i=0 \/ i=1 \/ i=2 by omega) with rfl | rfl | rfl <;> rfl
theorem zAT (f:Nat -> Nat -> Nat) (s:St) {i:Nat} (h:i<3):(Gz f s i).at_ i=s.at_ i:=by
 rcases (show i=0 \/ i=1 \/ i=2 by omega) with rfl | rfl | rfl <;> rfl
theorem zAU (f:Nat -> Nat -> Nat) (s:St) {i:Nat} (h:i<3):(Gz f s i).cs.setIfInBounds i (vd vo (f i (s.at_ i):Int))=(Gz f s (i+1)).cs:=by
 rcases (show i=0 \/ i=1 \/ i=2 by omega) with rfl | rfl | rfl <;> simp [Gz,St.cs,St.at_]
theorem zAv {p:Nat} (h:jc p=true):(pc p).1<18446744073709551616 /\ (pc p).2.2<18446744073709551616:=by
 rcases Wv h with rfl | rfl | rfl | rfl | rfl | rfl | rfl <;> exact ⟨zD,zD⟩
theorem zFZ (p:Nat) (s:St) (w:vu) (hp:jc p=true) :
  vA prog 300 #[vd vo p,s.val] w fun e w'=>e=vn (Cu p s).val /\ vz w.1.size w w':=by
 have HV:=zH (fun w=>qv p w hp)
 have HE:=zH (fun w=>zC2 p w hp)
 have HC:=zH (fun r i w hr hi=>zFQ p r i w hp hr hi)
 have HA:=zH (fun a b w=>Rt p a b w hp)
 have HP:=zH (fun a n w hn=>zC3 p a n w hp hn)
 have HM:=zH (fun s w=>zFT p s w hp)
 have Mh:=(zAv hp).2;have HSB:=zH (show ∀ r i x,Eu p r i x=((x+Ot p r i)%p)^(pc p).2.2%p from fun _ _ _=>rfl)
 clear hp;unfold fv at *;generalize (pc p).2.2=ex at *;have Bw:=zH Mh;clear Mh;obtain ⟨k1,k2,k3,da,Db⟩:=Sw w 298 298 224 s.cs #[vd vo 0,vd vo 0,vd vo 0] #[vd vo p];have iA:=zH (show (Cu p s).val=(tt p s 8).val from rfl)
 rw [iA.out];clear iA;unfold St.cs at k1 k2 k3 da Db;have ev:s.val=vf #[vd vo s.a,vd vo s.b,vd vo s.c]:=rfl;rw [ev];clear ev;go_enter func300,ntmps300
 go_wp2_with fail
 generalize ((w.alloc _).alloc _).alloc _=w0 at k1 k2 k3 da Db |-;refine (HV.out _).mono ?_;rintro e w1 ⟨rfl,Oa⟩;replace k1:=pa k1 Oa;replace k2:=pa k2 Oa;replace k3:=pa k3 Oa;replace da:=ta da Oa;clear Oa Db;have c3:=k3.cell;go_wp2_with fail
 refine (HE.out _).mono ?_;rintro e w2 ⟨rfl,Fa⟩;replace k1:Blk w2 w.1.size 298 (tt p s 0).cs:=pa k1 Fa;replace k2:=pa k2 Fa;replace k3:=pa k3 Fa;replace da:=ta da Fa;clear Fa c3 HV HE;go_wp2_with fail
 go_loopw [17] (fun i wr=>∃ r:Nat,r <= 8 /\ i=vd vq r /\ Blk wr w.1.size 298 (tt p s r).cs /\ Blk wr (w.1.size+1) 298 #[vd vo 0,vd vo 0,vd vo 0] /\ Blk wr (w.1.size+1+1) 224 #[vd vo p] /\ vz w.1.size w wr) (fun i _=>8-(intOf i).toNat)
 case atStart=>exact ⟨0,Qb _,rfl,k1,k2,k3,da⟩
 case round =>
  clear k1 k2 k3 da;obtain ⟨r,hr,rfl,k1,k2,k3,da⟩:=hrel;by_cases ya:r<8
  ·have g1:(r:Int)<8:=by omega
   obtain ⟨t,ht⟩:=zEX (tt p s r);rw [<- ht] at k1;have HT:=zH (show tt p s (r+1)=RF p (Gz (Eu p r) t 3) by rw [tt,<- ht];rfl)
   clear ht;go_wp2_with fail
   go_loopw [20] (fun i wr=>∃ m:Nat,m <= 3 /\ i=vd vq m /\ Blk wr w.1.size 298 (Gz (Eu p r) t m).cs /\ Blk wr (w.1.size+1) 298 #[vd vo 0,vd vo 0,vd vo 0] /\ Blk wr (w.1.size+1+1) 224 #[vd vo p] /\ vz w.1.size w wr) (fun i _=>3-(intOf i).toNat)
   case atStart=>exact ⟨0,Qb _,rfl,k1,k2,k3,da⟩
   case round =>
    clear k1 k2 k3 da;obtain ⟨m,hm,rfl,k1,k2,k3,da⟩:=hrel;by_cases zh:m<3
    ·have g2:(m:Int)<3:=by omega
     have cm:=k1.cell m;rw [St.cs_at _ zh,zAT _ _ zh] at cm;have iO:=zH (zAU (Eu p r) t zh);have JG:=zH (HSB.out r m (t.at_ m));have Gj:=zH (fun w=>HC.out r m w ya zh)
     have af:=zH (fun w=>HA.out (t.at_ m) (Ot p r m) w)
     have jE:=zH (fun w=>HP.out ((t.at_ m+Ot p r m)%p) ex w Bw.out)
     rw [<- JG.out] at jE;clear JG;generalize Eu p r m (t.at_ m)=sv at *;generalize (t.at_ m+Ot p r m)%p=av at *;generalize Ot p r m=cv at *;generalize t.at_ m=xv at *;have c3:=k3.cell;have l1:=k1.lt;have l3:=k3.lt;go_wp2_with fail
     refine tg (Rc) (Da) [14] [14] [0,1,2,3,4,5,6,7,8,9,10,11,12,13,14] zK zK ?_;refine ug (Da) ?_;intro Wc ja;refine Cd ?_;refine yd Da rfl rfl rfl rfl (fun w' hR=>Gj.out _) ?_
     refine zPU ?_;refine Cd ?_;refine yd Da rfl rfl rfl rfl (fun w' hR=>af.out _) ?_
     refine zPU ?_;refine Cd ?_;refine yd Da rfl rfl rfl rfl (fun w' hR=>jE.out _) ?_
     refine zPU ?_;refine Cd ?_;refine Xj rfl rfl rfl rfl ?_;intro wh Tc;replace ja:=zM Da ja Tc;replace k1:=k1.drew.below ja k1.lt;replace k2:=k2.drew.below ja k2.lt;replace k3:=k3.drew.below ja k3.lt;replace da:=ta da.drew ja;have f1:=k1.frozen m;have cm2:wh.cell? ⟨w.1.size,m,vB⟩=vD (vd vo xv):=yZ ja cm;clear c3 l1 l3 cm;go_simp;refine ⟨fun h=>Bool.noConfusion h,?_⟩
     have hg:wh.grownBy (wh.setCell ⟨w.1.size,m,vB⟩ (vd vo sv)) (vD w.1.size):=Li (p:=⟨w.1.size,m,vB⟩) (mg wh _) (.inl rfl) _;replace k1:=k1.set_ m (vd vo sv);rw [iO.out] at k1;replace k2:=k2.grown hg (fun e=>by have:=Nb e;omega)
     replace k3:=k3.grown hg (fun e=>by have:=Nb e;omega)
     replace da:=da.trans (om hg da.size zR);clear hg f1 cm2;generalize wh.setCell _ _=Wf at k1 k2 k3 da |-;refine Fk rfl ?_;go_wp2
     go_roundw
     case rel=>exact ⟨m+1,zO,by go_num,k1,k2,k3,da⟩
     case measure=>simp [intOf];omega
    ·obtain rfl:m=3:=by omega
     obtain ⟨q,hq⟩:=zEX (Gz (Eu p r) t 3);rw [<- hq] at k1 HT;clear hq;have Oh:Blk wr w.1.size 298 #[vd vo q.a,vd vo q.b,vd vo q.c]:=k1;obtain ⟨z,hz⟩:=zEX (RF p q);rw [<- hz] at HT;have Kf:=zH (show ∀ w,vA prog 316 #[vd vo p,vf #[vd vo q.a,vd vo q.b,vd vo q.c]] w fun e w'=>e=vn (vf #[vd vo z.a,vd vo z.b,vd vo z.c]) /\ vz w.1.size w w' from fun w=>by rw [hz];exact HM.out q w)
     clear hz k1;have c1:=Oh.cell;go_wp2_with fail
     refine (Kf.out _).mono ?_;rintro e w5 ⟨rfl,Bb⟩;replace Oh:=Oh.below Bb Oh.lt;replace k2:=pa k2 Bb;replace k3:=pa k3 Bb;replace da:=ta da Bb;clear Bb c1;have c1:=Oh.cell;have f1:=Oh.frozen;go_wp2_with fail
     have hg:=Ep (w:=w5) (g:=w.1.size) (vd vo z.a) (vd vo z.b) (vd vo z.c);have kz:=Dp Oh (vd vo z.a) (vd vo z.b) (vd vo z.c);replace k2:=k2.grown hg (fun e=>by have:=Nb e;omega)
     replace k3:=k3.grown hg (fun e=>by have:=Nb e;omega)
     replace da:=da.trans (om hg da.size zR);clear hg c1 f1 Oh;generalize ((vE w5 _ _).setCell _ _).setCell _ _=Wf at kz k2 k3 da |-
     go_roundw
     case rel=>exact ⟨r+1,zO,by go_num,by rw [HT.out];exact kz,k2,k3,da⟩
     case measure=>simp [intOf];omega
  ·obtain rfl:r=8:=by omega
   obtain ⟨q,hq⟩:=zEX (tt p s 8);rw [<- hq] at k1;have HQ:=zH hq;clear hq;have Oh:Blk wr w.1.size 298 #[vd vo q.a,vd vo q.b,vd vo q.c]:=k1;have c1:=Oh.cell;have c2:=k2.cell;have f2:=k2.frozen;go_wp2_with fail
   have hg:=Ep (w:=wr) (g:=w.1.size+1) (vd vo q.a) (vd vo q.b) (vd vo q.c);have kz:=Dp k2 (vd vo q.a) (vd vo q.b) (vd vo q.c);clear c1 c2 f2 k2;generalize ((vE wr _ _).setCell _ _).setCell _ _=Wf at hg kz |-;have cz:=kz.cell;have hs:=da.size;exact Uc (v:=vf #[vd vo q.a,vd vo q.b,vd vo q.c]) (by simp [results,results300,go_sem,cz]) rfl ⟨by rw [<- HQ.out];rfl,da.trans (om hg hs zO)⟩
theorem IX (p a e:Nat) (w:vu) (hp:jc p=true) (he:e<18446744073709551616) :
  vA prog 273 #[vd vo p,vd vo a,vd vo e] w fun e' w'=>e'=vn (vd vo ((a^e%p:Nat):Int)) /\ vz w.1.size w w':=by
 obtain ⟨Sd,Vb⟩:=Cc hp;have HO:=zH (fun w=>by have:=Fq p w Vb;rw [hp] at this;exact this)
 have HM:=zH (fun a b w=>Bz p a b w hp)
 obtain ⟨n,hn⟩:=zEX (a^e%p);rw [<- hn];have HI:=zH (show 1*(a%p)^e%p=n by rw [Nat.one_mul,<- Nat.pow_mod,hn])
 have HP:=zH Sd;have p1:(0:Int)<p:=by omega
 have e1:(a:Int)%(p:Int)=((a%p:Nat):Int):=rfl;have e2:(a:Int).tmod (p:Int)=((a%p:Nat):Int):=rfl;have p3:¬(p=0):=by omega
 clear hn hp Sd Vb;generalize a%p=a0 at *;go_enter func273,ntmps273
 go_wp2_with fail
 refine (HO.out _).mono ?_;rintro e' w1 ⟨rfl,da⟩;go_wp2_with fail
 clear e1 e2;go_loopw [1,2,7] (fun x y z wr=>∃ a' e' r:Nat,x=vd vo a' /\ y=vd vo e' /\ z=vd vo r /\ r<p /\ e'<18446744073709551616 /\ Hid (r*a'^e'%p=n) /\ vz w.1.size w wr) (fun _ y _ _=>(intOf y).toNat)
 case atStart=>exact ⟨a0,e,1,rfl,rfl,rfl,by have:=HP.out;omega,he,HI.out,da⟩
 case round =>
  clear da;obtain ⟨a',e',r,rfl,rfl,rfl,fp,he',H,tb⟩:=hrel;by_cases h0:e'=0
  ·subst h0
   have HE:=zH (show r=n by have:=H.out;rw [Nat.pow_zero,Ns,Lk fp] at this;exact this)
   go_wp2;go_ret
   exact ⟨by rw [HE.out];rfl,tb⟩
  ·have g1:(0:Int)<e':=by omega
   obtain ⟨f,hf⟩:=zEX (e' / 2);have e1:(e':Int) / 2=(f:Int):=by omega
   have e2:(e':Int).tdiv 2=(f:Int):=by rw [FM zO];exact e1
   have HQ:=zH (fun w=>HM.out a' a' w)
   rcases (show e'%2=1 \/ e'%2=0 by omega) with Fx | Fx
   ·have eb:(e':Int)%2=1:=by omega
    have ec:(e':Int).tmod 2=1:=by rw [Int.tmod_eq_emod_of_nonneg zO];exact eb
    have HF:=zH hf;have Kf:=zH (fun w=>HM.out r a' w)
    have HX:=r9 p r a' e' n H.out Fx;rw [<- hf] at HX;have Fg:r*a'%p<p:=Sc _ (zQ HP.out);generalize r*a'%p=s at *;generalize a'*a'%p=q at *;replace HX:=zH HX;clear Fx hf;go_wp2_with fail
    refine (Kf.out _).mono ?_;rintro e w1 ⟨rfl,Oa⟩;replace tb:=Nk tb Oa tb.size;clear Oa;go_wp2_with fail
    refine (HQ.out _).mono ?_;rintro e w2 ⟨rfl,Fa⟩;replace tb:=Nk tb Fa tb.size;go_wp2
    go_roundw
    case rel=>exact ⟨q,f,s,rfl,rfl,rfl,Fg,by have:=HF.out;omega,HX.out,tb⟩
    case measure=>have:=HF.out;simp [intOf];omega
   ·have eb:(e':Int)%2=0:=by omega
    have ec:(e':Int).tmod 2=0:=by rw [Int.tmod_eq_emod_of_nonneg zO];exact eb
    have HF:=zH hf;have HX:=p9 p r a' e' n H.out Fx;rw [<- hf] at HX;generalize a'*a'%p=q at *;replace HX:=zH HX;clear Fx hf;go_wp2_with fail
    refine (HQ.out _).mono ?_;rintro e w2 ⟨rfl,Fa⟩;replace tb:=Nk tb Fa tb.size;go_wp2
    go_roundw
    case rel=>exact ⟨q,f,r,rfl,rfl,rfl,fp,by have:=HF.out;omega,HX.out,tb⟩
    case measure=>have:=HF.out;simp [intOf];omega
theorem zD2 {w:vu} {a b c:vw}:(Instr.index 298 (vf #[a,b,c]) (vd vq 2)).run prog w= .ok c w :=
 wQ (i:=2) underlying298 RU gY zO rfl
theorem zGL (p:Nat) (w:vu) (hp:jc p=true) :
  vA prog 275 #[vd vo p] w fun e w'=>e=vn (vd vo ((pc p).2.2:Int)) /\ vz w.1.size w w':=by
 have HR:=zH (SX p w (Cc hp).2);clear hp;unfold ON at HR;generalize (pc p).1=a at *;generalize (pc p).2.1=b at *;generalize (pc p).2.2=c at *;go_enter func275,ntmps275
 go_wp2_with (go_at_call 233;refine HR.out.mono ?_;rintro e w1 ⟨rfl,hb⟩)
 rw [zD2,Result.andThen,Oper.upon_value];go_wp2;go_ret
 exact ⟨rfl,hb⟩
theorem T9 (p:Nat) (w:vu) (hp:jc p=true) :
  vA prog 238 #[vd vo p] w fun e w'=>e=vn (vd vo ((pc p).1:Int)) /\ vz w.1.size w w':=by
 have HR:=zH (SX p w (Cc hp).2);clear hp;unfold ON at HR;generalize (pc p).1=a at *;generalize (pc p).2.1=b at *;generalize (pc p).2.2=c at *;go_enter func238,ntmps238
 go_wp2_with (go_at_call 233;refine HR.out.mono ?_;rintro e w1 ⟨rfl,hb⟩)
 rw [G5,Result.andThen,Oper.upon_value];go_wp2;go_ret
 exact ⟨rfl,hb⟩
def MT (p:Nat) (l:List Nat):Nat:=l.foldl (fun s x=>(s+x)%p) 0
theorem zHi (p:Nat) (A:Option vx) (n c:Nat) (l:List Nat) (w:vu) (hp:jc p=true) (hl:RWd w [ve A n c] l) :
  vA prog 301 #[vd vo p,ve A n c] w fun e w'=>e=vn (vd vo (MT p l:Int)) /\ vz w.1.size w w':=by
 obtain ⟨rfl,h1,h2,ya,Na⟩:=Pb hl;have gm:=ti h1 h2;have HA:=zH (fun a b w=>ID p a b w hp)
 have HS:=zH (show MT p l=l.foldl (fun s x=>(s+x)%p) 0 from rfl)
 rw [HS.out];clear HS hl h1 h2 hp ya;go_enter func301,ntmps301
 go_wp2_with fail
 go_loopw [5,6] (fun y i wr=>∃ k:Nat,k <= l.length /\ i=vd vq k /\ y=vd vo (((l.take k).foldl (fun s x=>(s+x)%p) 0:Nat):Int) /\ vz w.1.size w wr) (fun _ i _=>l.length-(intOf i).toNat)
 case atStart=>exact ⟨0,Qb _,rfl,rfl,Kb _ _⟩
 case round =>
  obtain ⟨k,hk,rfl,rfl,tb⟩:=hrel;by_cases ya:k<l.length
  ·obtain ⟨b,q,rfl,dc,hc⟩:=Hf (Na.below tb) ya
   have HF:=zH (zEL (fun s x=>(s+x)%p) 0 l k ya)
   generalize l.getD k 0=y at *;generalize (l.take k).foldl (fun s x=>(s+x)%p) 0=s at *
   have af:=zH (fun w=>HA.out s y w)
   have Fo:=zH (show (l.take (k+1)).foldl (fun s x=>(s+x)%p) 0=(s+y)%p from HF.out)
   clear HF;generalize (s+y)%p=z at *;have g1:(0:Int)<=k:=by omega
   have g2:(k:Int)<l.length:=by omega
   go_wp2_with fail
   refine (af.out _).mono ?_;rintro e w1 ⟨rfl,Oa⟩;replace tb:=Nk tb Oa tb.size;clear hc Oa;go_wp2
   go_roundw
   case rel=>exact ⟨k+1,zO,by go_num,by rw [Fo.out],tb⟩
   case measure=>simp [intOf];omega
  ·obtain rfl:k=l.length:=by omega
   rw [By];go_wp2;go_ret
   exact ⟨rfl,tb⟩
theorem zGH (p r i:Nat) (w:vu) (hp:jc p=true) (hr:r<8) (hi:i<3) :
  vA prog 274 #[vd vo p,vd vq r,vd vq i] w fun e w'=>e=vn (vd vo (Ot p r i:Int)) /\ vz w.1.size w w':=by
 obtain ⟨Sd,Vb⟩:=Cc hp;have HO:=zH (fun w=>by have:=Fq p w Vb;rw [hp] at this;exact this)
 have HC:=zH (show Ot p r i=Sv (3*r+i+1)%p from rfl)
 rw [HC.out];clear HC hp;obtain ⟨k,hk⟩:=zEX (3*r+i+1);rw [<- hk];have g1:(r:Int) <= 7:=by omega
 have g2:(i:Int) <= 2:=by omega
 have e1:3*(r:Int)+i+1=(k:Int):=by omega
 have e2:vo.wrap (k:Int)=k:=Wk _ zO;have e3:vo.wrap ((k:Int)*11400714819323198485)=(Sv k:Int):=by
  rw [mh];have:((k:Int)*11400714819323198485)=((k*11400714819323198485:Nat):Int):=by rw [Vh];rfl
  rw [this]
  rfl
 have e4:(Sv k:Int)%(p:Int)=((Sv k%p:Nat):Int):=rfl;have e5:(Sv k:Int).tmod (p:Int)=((Sv k%p:Nat):Int):=rfl;have p1:(0:Int)<p:=by omega
 have p3:¬(p=0):=by omega
 clear hk hr hi;generalize Sv k%p=m at *;generalize Sv k=z at *;go_enter func274,ntmps274
 go_wp2_with fail
 refine (HO.out _).mono ?_;rintro e w1 ⟨rfl,hb⟩;go_wp2;go_ret
 exact ⟨rfl,hb⟩
def AD (f:Nat -> Nat) (s:St):Nat -> St
 | 0=>⟨0,0,0⟩
 | 1=>⟨f s.a,0,0⟩
 | 2=>⟨f s.a,f s.b,0⟩
 | _=>⟨f s.a,f s.b,f s.c⟩
theorem zFy (f:Nat -> Nat) (s:St) {i:Nat} (h:i<3):(AD f s i).cs.setIfInBounds i (vd vo (f (s.at_ i):Int))=(AD f s (i+1)).cs:=by
 rcases (show i=0 \/ i=1 \/ i=2 by omega) with rfl | rfl | rfl <;> simp [AD,St.cs,St.at_]
theorem sum3 (p:Nat) (s:St):MT p [s.a,s.b,s.c]=Cq p s:=by
 simp [MT,Cq]
theorem St.lit (s:St):(Qa [s.a,s.b,s.c]).toArray=s.cs:=rfl
theorem zGV (p:Nat) (s:St) (w:vu) (hp:jc p=true) (hs:s.ok) :
  vA prog 276 #[vd vo p,s.val] w fun e w'=>e=vn (RF p s).val /\ vz w.1.size w w':=by
 have HA:=zH (fun a b w=>ID p a b w hp)
 have HR:=zH (show RF p s=AD (fun x=>(x+Cq p s)%p) s 3 from rfl)
 rw [HR.out];obtain ⟨k1,k2,k3,da,Db⟩:=Sw w 298 298 22 #[vd vo s.a,vd vo s.b,vd vo s.c] #[vd vo 0,vd vo 0,vd vo 0] #[vd vo s.a,vd vo s.b,vd vo s.c];have X4:RWd _ [ve (vD ⟨w.1.size+1+1,0,vB⟩) 3 3] [s.a,s.b,s.c]:=uN (l:=[s.a,s.b,s.c]) k3 (fun x hx=>by
  simp at hx
  rcases hx with rfl | rfl | rfl
  ·exact hs.1
  ·exact hs.2.1
  ·exact hs.2.2) (by simp [maxLen])
 have rA:=zH (zHi p _ 3 3 [s.a,s.b,s.c] _ hp X4);rw [sum3] at rA;clear HR X4 hp hs k3;generalize hm:Cq p s=m at *;clear hm;have ev:s.val=vf #[vd vo s.a,vd vo s.b,vd vo s.c]:=rfl;rw [ev];clear ev;go_enter func276,ntmps276
 go_wp2_with fail
 generalize ((w.alloc _).alloc _).alloc _=w0 at k1 k2 da Db rA |-;refine rA.out.mono ?_;rintro e w1 ⟨rfl,Oa⟩;replace k1:=pa k1 Oa;replace k2:=pa k2 Oa;replace da:=ta da Oa;have Gd:=Oa.size;clear Oa rA;obtain ⟨k4,ma⟩:=zN w1 298 #[vd vo 0,vd vo 0,vd vo 0];replace k1:=pa k1 ma;replace k2:=pa k2 ma;replace da:=ta da ma;have iD:w.1.size+1<w1.1.size:=by omega
 clear ma
 go_upto_block 0 with fail
 generalize w1.alloc _=w2 at k1 k2 k4 da |-;generalize w1.1.size=g at k4 iD |-;clear Gd;have k4':Blk w2 g 298 (AD (fun x=>(x+m)%p) s 0).cs:=k4
 have Oh:Blk w2 w.1.size 298 s.cs:=k1;clear k1 k4;go_wp2_with fail
 go_loopw [7] (fun i wr=>∃ k:Nat,k <= 3 /\ i=vd vq k /\ Blk wr w.1.size 298 s.cs /\ Blk wr (w.1.size+1) 298 #[vd vo 0,vd vo 0,vd vo 0] /\ Blk wr g 298 (AD (fun x=>(x+m)%p) s k).cs /\ vz w.1.size w wr) (fun i _=>3-(intOf i).toNat)
 case atStart=>exact ⟨0,Qb _,rfl,Oh,k2,k4',da⟩
 case round =>
  clear Oh k2 k4' da;obtain ⟨k,hk,rfl,k1,k2,k4,da⟩:=hrel;by_cases ya:k<3
  ·have g1:(k:Int)<3:=by omega
   have cm:=k1.cell k;rw [St.cs_at _ ya] at cm;obtain ⟨y,hy⟩:=zEX ((s.at_ k+m)%p);have iO:=zH (show (AD (fun x=>(x+m)%p) s k).cs.setIfInBounds k (vd vo y)=(AD (fun x=>(x+m)%p) s (k+1)).cs from by rw [hy];exact zFy (fun x=>(x+m)%p) s ya)
   have af:=zH (fun w=>HA.out (s.at_ k) m w)
   rw [<- hy] at af;clear hy;have cz:=k4.cell k;rw [St.cs_at _ ya] at cz;generalize (AD (fun x=>(x+m)%p) s k).at_ k=old at cz
   generalize s.at_ k=x at *;go_wp2_with fail
   refine (af.out _).mono ?_;rintro e w3 ⟨rfl,Ra⟩;have cz3:w3.cell? ⟨g,k,vB⟩=vD (vd vo old):=(Below.cell Ra (Bg _ _ cz)).trans cz;replace k1:=pa k1 Ra;replace k2:=pa k2 Ra;replace k4:=pa k4 Ra;replace da:=ta da Ra;have f4:=k4.frozen k;clear cz cm Ra;go_wp2_with fail
   have hg:w3.grownBy (w3.setCell ⟨g,k,vB⟩ (vd vo y)) (vD g):=Li (p:=⟨g,k,vB⟩) (mg w3 _) (.inl rfl) _;replace k4:=k4.set_ k (vd vo y);rw [iO.out] at k4;replace k1:=k1.grown hg (fun e=>by have:=Nb e;omega)
   replace k2:=k2.grown hg (fun e=>by have:=Nb e;omega)
   replace da:=Ee da hg;clear hg f4 cz3;generalize w3.setCell _ _=Wf at k1 k2 k4 da |-
   go_roundw
   case rel=>exact ⟨k+1,zO,by go_num,k1,k2,k4,da⟩
   case measure=>simp [intOf];omega
  ·obtain rfl:k=3:=by omega
   obtain ⟨q,hq⟩:=zEX (AD (fun x=>(x+m)%p) s 3)
   rw [<- hq] at k4;have HQ:=zH hq;clear hq;have k4':Blk wr g 298 #[vd vo q.a,vd vo q.b,vd vo q.c]:=k4;have c4:=k4'.cell;have c2:=k2.cell;have f2:=k2.frozen;go_wp2_with fail
   have hg:=Ep (w:=wr) (g:=w.1.size+1) (vd vo q.a) (vd vo q.b) (vd vo q.c);have kz:=Dp k2 (vd vo q.a) (vd vo q.b) (vd vo q.c);clear c4 c2 f2 k2;generalize ((vE wr _ _).setCell _ _).setCell _ _=Wf at hg kz |-;have cz:=kz.cell;have hs:=da.size;exact Uc (v:=vf #[vd vo q.a,vd vo q.b,vd vo q.c]) (by simp [results,results276,go_sem,cz]) rfl ⟨by rw [<- HQ.out];rfl,da.trans (om hg hs zO)⟩
theorem St.ok_of_lt {s:St} {p:Nat} (hp:p<18446744073709551616) (h1:s.a<p) (h2:s.b<p) (h3:s.c<p):s.ok:=⟨zO,zO,zO⟩
theorem zHJ {p:Nat} (h1:0<p) (r i x:Nat):Eu p r i x<p:=Sc _ h1
end Go.Proofs.YteoghgbnielkpaaGreat
