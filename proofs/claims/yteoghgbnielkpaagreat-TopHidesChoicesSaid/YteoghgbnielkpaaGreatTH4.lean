/- A part of the proof. No condition. -/
import Derived.Test.YteoghgbnielkpaaGreatTH2
import Derived.Test.YteoghgbnielkpaaGreatTH3
import Derived.Shelf.Spec.BitsCarry
import Derived.Laws.OwnMore
import Derived.StillTailTactics

set_option maxRecDepth 100000
set_option maxHeartbeats 8000000
set_option linter.unusedVariables false
set_option linter.unusedSimpArgs false
namespace Go.Proofs.YteoghgbnielkpaaGreat
open Go.RowKit
open Tryz
open Go renaming World->vw, Value->vx, Addr->vy, TypeId->vz, Calls->vB
open Go.Value renaming int->vd, slice->ve, agg->vf
open Go.IntKind renaming u64->vn, i64->vq
open Go.Ending renaming returned->vl
open Go.RowKit renaming Below->vA
open Go.World renaming setCell->vF
open Go.Act renaming put->vG
open Option renaming none->vD, some->vE
theorem Nb {p:Nat} (h:Ib p=true):17 <= p /\ p<18446744073709551616:=by
 rcases Bt h with rfl | rfl | rfl | rfl | rfl | rfl | rfl <;> omega
theorem bK (p a b:Nat) (w:vw) (hp:Ib p=true) :
  vB prog 71 #[vd vn p,vd vn a,vd vn b] w fun e w'=>e=vl (vd vn ((a+b)%p:Nat)) /\ vA w.1.size w w':=by
 obtain ⟨h1,h2⟩:=Nb hp;have HO:=zH hp;have p1:(0:Int)<p:=by omega
 have p2:¬((p:Int)=0):=by omega
 have ha:a%p<p:=ic _ (by omega)
 have hb:b%p<p:=ic _ (by omega)
 have HE:=zH (Nat.add_mod a b p);have e1:(a:Int)%(p:Int)=((a%p:Nat):Int):=rfl;have e2:(b:Int)%(p:Int)=((b%p:Nat):Int):=rfl;rw [HE.out];clear HE;revert e1 e2 ha hb
 generalize a%p=x;generalize b%p=y;intro ha hb e1 e2;have e3:vn.wrap ((p:Int)-y)=((p-y:Nat):Int):=Hy p y (by omega) h2
 have hz:p-y <= p:=by omega
 have Bf:p-y=p-y:=rfl;obtain ⟨z,hzz⟩:=zEX (p-y);rw [<- hzz] at e3;have HX:=zH (show z <= x /\ x+y<36893488147419103232 -> True from fun _=>trivial)
 by_cases hc:z <= x
 ·have e4:vn.wrap ((x:Int)-z)=((x-z:Nat):Int):=Hy x z hc (by omega)
  obtain ⟨r,hr⟩:=zEX (x-z);rw [<- hr] at e4;have HR:=zH (show (x+y)%p=r by rw [hr,hzz,Nat.mod_eq_sub_mod (by omega),Fj (by omega)];omega)
  have d1:decide ((z:Int)<=x)=true:=yb (by omega)
  clear hr hzz hz Bf h1 h2 ha hb hp;rw [HR.out];go_enter func71,ntmps71
  go_wp2_with (go_at_call 152;refine (Ju p _ (Nb HO.out).2).mono ?_;rintro e w1 ⟨rfl,Ca⟩;rw [HO.out])
  go_quiet (fail)
  go_wp2;go_ret
  exact ⟨rfl,JG Ca _⟩
 ·have e4:vn.wrap ((x:Int)+y)=((x+y:Nat):Int):=gQ x y (by omega)
  obtain ⟨r,hr⟩:=zEX (x+y);rw [<- hr] at e4;have HR:=zH (show (x+y)%p=r by rw [hr,Fj (by omega)])
  have d1:decide ((z:Int)<=x)=false:=xb (by omega)
  clear hr hzz hz Bf h1 h2 ha hb hp;rw [HR.out];go_enter func71,ntmps71
  go_wp2_with (go_at_call 152;refine (Ju p _ (Nb HO.out).2).mono ?_;rintro e w1 ⟨rfl,Ca⟩;rw [HO.out])
  go_quiet (fail)
  go_wp2;go_ret
  exact ⟨rfl,JG Ca _⟩
theorem zP (p a b:Nat) (w:vw) (hp:Ib p=true) :
  vB prog 181 #[vd vn p,vd vn a,vd vn b] w fun e w'=>e=vl (vd vn (a*b%p:Nat)) /\ vA w.1.size w w':=by
 obtain ⟨h1,h2⟩:=Nb hp;have HO:=zH hp;have p1:(0:Int)<p:=by omega
 have p2:¬((p:Int)=0):=by omega
 have p3:¬(p=0):=by omega
 have ha:a%p<p:=ic _ (by omega)
 have hb:b%p<p:=ic _ (by omega)
 have e1:(a:Int)%(p:Int)=((a%p:Nat):Int):=rfl;have e2:(b:Int)%(p:Int)=((b%p:Nat):Int):=rfl;have e3:(a:Int).tmod (p:Int)=((a%p:Nat):Int):=rfl;have e4:(b:Int).tmod (p:Int)=((b%p:Nat):Int):=rfl;rw [Nat.mul_mod a b p];revert e1 e2 e3 e4 ha hb
 generalize a%p=x;generalize b%p=y;intro ha hb e1 e2 e3 e4;have HX:=zH (show x<18446744073709551616 /\ y<18446744073709551616 by omega)
 have WB:x*y / 18446744073709551616<p:=by
  have:x*y <= p*18446744073709551615:=Nat.mul_le_mul (by omega) (by omega)
  rw [Nat.div_lt_iff_lt_mul (by omega)]
  omega
 have aC:x*y%18446744073709551616<18446744073709551616:=ic _ (by omega)
 have Jq:=au (x*y) 18446744073709551616;rw [Fe 18446744073709551616] at Jq;have HM:=zH (fun w=>GZ x y w HX.out.1 HX.out.2)
 revert WB aC Jq HM
 generalize x*y / 18446744073709551616=hi;generalize x*y%18446744073709551616=lo;intro WB aC Jq HM;have HD:=zH (fun w=>rX hi lo p w WB aC h2)
 rw [Jq] at HD;clear h1 h2 ha hb WB aC Jq hp;revert HD
 generalize x*y / p=q;generalize x*y%p=r;intro HD;go_enter func181,ntmps181
 go_wp2_with (go_at_call 152;refine (Ju p _ (Nb HO.out).2).mono ?_;rintro e w1 ⟨rfl,Ca⟩;rw [HO.out])
 refine Cd (Tb) [6] [0,1,2,3,4,5,6,7,8,9,10,11] (by kernel_rfl) (by kernel_rfl) ?_
 refine Cw (pa) ?_;intro Wc ea;refine Ob ?_;refine Gc (pa) rfl rfl rfl (fun _=>by go_simp <;> rfl) ((HM.out _).mono ?_)
 rintro e w2 ⟨rfl,rfl⟩;refine ⟨_,rfl,pa.refl _,?_⟩;replace ea:=(pa).trans _ _ _ ea (pa.refl _);refine zPU ?_;refine Ob ?_;refine Qc ?_;go_wp2_with (go_at_call 260;refine (HD.out _).mono ?_;rintro e w3 ⟨rfl,k,rfl⟩)
 go_ret
 exact ⟨rfl,JG (ma Ca.drew ea) _⟩
def ren25:Go.Shelf.Ren:=⟨fun | 25=>302 | n=>n,fun | 22=>22 | n=>n,fun n=>n⟩
theorem lays25:Go.Proofs.Lays7.n25 prog ren25:={ mixed:=by kernel_rfl,f25:=by kernel_rfl,t22:=by kernel_rfl,a22:=fun _=>by kernel_rfl,z22:=fun _=>by kernel_rfl,v22:=fun _=>by kernel_rfl,i22:=by kernel_rfl }
theorem zFq (x y:Nat) (w:vw):(callFunc 302 #[vd vn x,vd vn y,vd vn 0]).run prog w =
  .ok (.value (.tuple #[vd vn (((x+y)%18446744073709551616:Nat):Int),vd vn (((x+y) / 18446744073709551616:Nat):Int)])) w :=
 Any7.bits_Add64 lays25 x y 0 (by omega) w
def fv (p:Nat):vx:=vf #[vd vn p]
theorem Eo (p:Nat) (w:vw) (hp:Ib p=true) :
  vB prog 214 #[fv p] w fun e w'=>e=vl (.bool true) /\ vA w.1.size w w':=by
 unfold fv;rcases Bt hp with rfl | rfl | rfl | rfl | rfl | rfl | rfl <;>
 ·go_enter func214,ntmps214
  go_wp2_with fail
  go_ret
  exact ⟨rfl,(za _ _).alloc zR _⟩
theorem PX (p:Nat) (w:vw) (hp:Ib p=true) :
  vB prog 223 #[fv p] w fun e w'=>e=vl (.tuple #[vd vn ((Mb p).1:Int),vd vq ((Mb p).2.1:Int),vd vn ((Mb p).2.2:Int)]) /\ vA w.1.size w w':=by
 unfold fv;rcases Bt hp with rfl | rfl | rfl | rfl | rfl | rfl | rfl <;>
 ·go_enter func223,ntmps223
  go_wp2_with fail
  go_ret3
  exact ⟨rfl,(za _ _).alloc zR _⟩
theorem MR (p:Nat) (w:vw) (hp:Ib p=true) :
  vB prog 131 #[fv p] w fun e w'=>e=vl (vd vn ((Mb p).1:Int)) /\ vA w.1.size w w':=by
 have H:=zH (fun w=>PX p w hp)
 clear hp;unfold fv at *;generalize Mb p=r at *;obtain ⟨a,b,c⟩:=r;go_enter func131,ntmps131
 go_wp2_with (go_at_call 223;refine (H.out _).mono ?_;rintro e w1 ⟨rfl,hb⟩)
 go_ret
 exact ⟨rfl,ma ((za _ _).alloc zR _) hb⟩
theorem zBe (p:Nat) (w:vw) (hp:Ib p=true) :
  vB prog 313 #[fv p] w fun e w'=>e=vl (vd vn ((Mb p).2.2:Int)) /\ vA w.1.size w w':=by
 have H:=zH (fun w=>PX p w hp)
 clear hp;unfold fv at *;generalize Mb p=r at *;obtain ⟨a,b,c⟩:=r;go_enter func313,ntmps313
 go_wp2_with (go_at_call 223;refine (H.out _).mono ?_;rintro e w1 ⟨rfl,hb⟩)
 go_ret
 exact ⟨rfl,ma ((za _ _).alloc zR _) hb⟩
theorem EB (p n:Nat) (w:vw) (hp:0<p) :
  vB prog 228 #[fv p,vd vn n] w fun e w'=>e=vl (vd vn ((n%p:Nat):Int)) /\ vA w.1.size w w':=by
 unfold fv;have p1:(0:Int)<p:=by omega
 have e1:(n:Int)%(p:Int)=((n%p:Nat):Int):=rfl;have e2:(n:Int).tmod (p:Int)=((n%p:Nat):Int):=rfl;by_cases h:p <= n
 ·have g:(p:Int)<=n:=by omega
  revert e1 e2
  generalize n%p=r;intro e1 e2;go_enter func228,ntmps228
  go_wp2_with fail
  go_ret
  exact ⟨rfl,(za _ _).alloc zR _⟩
 ·have g:¬((p:Int)<=n):=by omega
  have HE:=zH (Fj (show n<p by omega))
  clear e1 e2;rw [HE.out];go_enter func228,ntmps228
  go_wp2_with fail
  go_ret
  exact ⟨rfl,(za _ _).alloc zR _⟩
theorem MN (p a b:Nat) (w:vw) (hp:Ib p=true) (ha:a<p) (hb:b<p) :
  vB prog 227 #[fv p,vd vn a,vd vn b] w fun e w'=>e=vl (vd vn ((a*b%p:Nat):Int)) /\ vA w.1.size w w':=by
 obtain ⟨h1,h2⟩:=Nb hp;unfold fv;have WB:a*b / 18446744073709551616<p:=by
  have:a*b <= p*18446744073709551615:=Nat.mul_le_mul (by omega) (by omega)
  rw [Nat.div_lt_iff_lt_mul (by omega)]
  omega
 have aC:a*b%18446744073709551616<18446744073709551616:=ic _ (by omega)
 have Jq:=au (a*b) 18446744073709551616;rw [Fe 18446744073709551616] at Jq;have HM:=zH (fun w=>GZ a b w (by omega) (by omega))
 revert WB aC Jq HM
 generalize a*b / 18446744073709551616=hi;generalize a*b%18446744073709551616=lo;intro WB aC Jq HM;have HD:=zH (fun w=>rX hi lo p w WB aC h2)
 rw [Jq] at HD;clear h1 h2 ha hb WB aC Jq hp;revert HD
 generalize a*b / p=q;generalize a*b%p=r;intro HD;go_enter func227,ntmps227
 go_wp2_with fail
 refine (HM.out _).mono ?_;rintro e w1 ⟨rfl,rfl⟩;go_wp2_with fail
 refine (HD.out _).mono ?_;rintro e w3 ⟨rfl,k,rfl⟩;go_wp2;go_ret
 exact ⟨rfl,JG ((za _ _).alloc zR _) _⟩
theorem QX (p a b:Nat) (w:vw) (hp:Ib p=true) (ha:a<p) (hb:b<p) :
  vB prog 279 #[fv p,vd vn a,vd vn b] w fun e w'=>e=vl (vd vn (((a+b)%p:Nat):Int)) /\ vA w.1.size w w':=by
 obtain ⟨h1,h2⟩:=Nb hp;unfold fv;have td:=zFq a b;obtain ⟨s,hs⟩:=zEX ((a+b)%18446744073709551616);obtain ⟨c,hc⟩:=zEX ((a+b) / 18446744073709551616);rw [<- hs,<- hc] at td;by_cases z:c=0
 ·have d1:((c:Int) != 0)=false:=by rw [pk];omega
  have d1':(c:Int)=0:=by omega
  by_cases EE:p <= s
  ·have d2:(p:Int)<=s:=by omega
   have e:vn.wrap ((s:Int)-p)=(((a+b)%p:Nat):Int):=by
    rw [Hy s p EE (by omega)]
    congr 1
    have e1:s=a+b:=by omega
    rw [e1,Nat.mod_eq_sub_mod (by omega),Fj (by omega)]
   generalize (a+b)%p=r at *;clear hs hc hp z ha hb h1 h2 d1';go_enter func279,ntmps279
   go_wp2_with fail
   go_ret
   exact ⟨rfl,(za _ _).alloc zR _⟩
  ·have d2:¬((p:Int)<=s):=by omega
   have e:s=(a+b)%p:=by
    have e1:s=a+b:=by omega
    rw [e1,Fj (by omega)]
   have HE:=zH e;clear hs hc hp z ha hb h1 h2 d1' e;rw [<- HE.out];go_enter func279,ntmps279
   go_wp2_with fail
   go_ret
   exact ⟨rfl,(za _ _).alloc zR _⟩
 ·have d1:((c:Int) != 0)=true:=by rw [Df];omega
  have e:vn.wrap ((s:Int)-p)=(((a+b)%p:Nat):Int):=by
   have e1:(a+b)%p=a+b-p:=by rw [Nat.mod_eq_sub_mod (by omega),Fj (by omega)]
   rw [e1,Ei];omega
  generalize (a+b)%p=r at *;clear hs hc hp z ha hb h1 h2;go_enter func279,ntmps279
  go_wp2_with fail
  go_ret
  exact ⟨rfl,(za _ _).alloc zR _⟩
theorem dH (p n:Nat) (w:vw) (hp:Ib p=true) :
  vB prog 221 #[fv p,vd vn n] w fun e w'=>e=vl (vd vn ((n%p:Nat):Int)) /\ vA w.1.size w w':=by
 have HV:=zH (fun w=>Eo p w hp)
 have HR:=zH (fun w=>EB p n w (by have:=Nb hp;omega))
 clear hp;unfold fv at *;generalize n%p=r at *;have da:vA w.1.size w (w.alloc (.cells #[vd vn p] 224)):=(za _ _).alloc zR _;have kf:=Blk.new w 224 #[vd vn p];go_enter func221,ntmps221
 go_wp2_with fail
 refine (HV.out _).mono ?_;rintro e w1 ⟨rfl,Ca⟩;replace kf:=ia kf Ca;replace da:=ma da Ca;clear Ca;have cf:=kf.cell;go_wp2_with fail
 refine (HR.out _).mono ?_;rintro e w2 ⟨rfl,Aa⟩;go_wp2;go_ret
 exact ⟨rfl,ma da Aa⟩
theorem xm (p a b:Nat) (w:vw) (hp:Ib p=true) :
  vB prog 215 #[fv p,vd vn a,vd vn b] w fun e w'=>e=vl (vd vn (((a+b)%p:Nat):Int)) /\ vA w.1.size w w':=by
 have Af:0<p:=by have:=Nb hp;omega
 have HV:=zH (fun w=>Eo p w hp)
 have HA:=zH (fun w=>EB p a w Af)
 have HB:=zH (fun w=>EB p b w Af)
 have HS:=zH (fun w=>QX p (a%p) (b%p) w hp (ic _ Af) (ic _ Af))
 rw [<- Nat.add_mod] at HS;clear hp Af;unfold fv at *;generalize (a+b)%p=r at *;generalize a%p=x at *;generalize b%p=y at *;have da:vA w.1.size w (w.alloc (.cells #[vd vn p] 224)):=(za _ _).alloc zR _;have kf:=Blk.new w 224 #[vd vn p];go_enter func215,ntmps215
 go_wp2_with fail
 refine (HV.out _).mono ?_;rintro e w1 ⟨rfl,Ca⟩;replace kf:=ia kf Ca;replace da:=ma da Ca;clear Ca;have cf:=kf.cell;have lf:=kf.lt;go_wp2_with fail
 refine Ve (Tb) (pa) [] [] [0,1,2,3,4,5,6,7,8] (by kernel_rfl) (by kernel_rfl) ?_
 refine Xe (pa) ?_;intro Wc ea;refine Ee ?_;refine Uc (pa) rfl rfl rfl rfl (fun _ _ _ h=>h) (fun _=>by go_simp <;> rfl) (fun w' hR=>HA.out _) ?_
 refine zPU ?_;refine Ee ?_;refine Uc (pa) rfl rfl rfl rfl (fun _ _ _ h=>h) (fun _=>by go_simp <;> rfl) (fun w' hR=>HB.out _) ?_
 refine zPU ?_;refine Ee ?_;refine Uc (pa) rfl rfl rfl rfl (fun _ _ _ h=>h) (fun _=>by go_simp <;> rfl) (fun w' hR=>HS.out _) ?_
 refine zPU ?_;refine Ee ?_;refine Hr rfl ?_;intro wd ke;replace ea:=(pa).trans _ _ _ ea ke;clear ke;go_wp2;go_ret
 exact ⟨rfl,ma da.drew ea⟩
theorem p5 (p r a e n:Nat) (h:r*a^e%p=n) (he:e%2=1):(r*a%p)*(a*a%p)^(e / 2)%p=n:=by
 have h2:e=2*(e / 2)+1:=by omega
 rw [<- h,Nat.mul_mod,Nat.mod_mod,<- Nat.pow_mod,<- Nat.mul_mod]
 conv=>rhs;rw [h2,Ig,Nat.pow_mul,Nat.pow_two,Fe _ a,<- Nat.mul_assoc]
theorem Y4 (p r a e n:Nat) (h:r*a^e%p=n) (he:e%2=0):r*(a*a%p)^(e / 2)%p=n:=by
 have h2:e=2*(e / 2):=by omega
 rw [<- h,Nat.mul_mod,<- Nat.pow_mod,<- Nat.mul_mod]
 conv=>rhs;rw [h2,Nat.pow_mul,Nat.pow_two]
theorem UR (p a e:Nat) (w:vw) (hp:Ib p=true) (ha:a<p) (he:e<18446744073709551616) :
  vB prog 281 #[fv p,vd vn a,vd vn e] w fun e' w'=>e'=vl (vd vn ((a^e%p:Nat):Int)) /\ vA w.1.size w w':=by
 have Af:1<p:=by have:=Nb hp;omega
 have HM:=zH (fun a b w (h1:a<p) (h2:b<p)=>MN p a b w hp h1 h2)
 obtain ⟨n,hn⟩:=zEX (a^e%p);rw [<- hn];have HI:=zH (show 1*a^e%p=n by rw [Nat.one_mul,hn])
 have HP:=zH Af;clear hn hp Af;unfold fv at *;have da:vA w.1.size w (w.alloc (.cells #[vd vn p] 224)):=(za _ _).alloc zR _;have kf:=Blk.new w 224 #[vd vn p];go_enter func281,ntmps281
 go_wp2_with fail
 generalize w.alloc _=w0 at da kf |-;go_loopw [1,2,7] (fun x y z wr=>∃ a' e' r:Nat,x=vd vn a' /\ y=vd vn e' /\ z=vd vn r /\ a'<p /\ r<p /\ e'<18446744073709551616 /\ Hid (r*a'^e'%p=n) /\ vA w0.1.size w0 wr) (fun _ y _ _=>(intOf y).toNat)
 case atStart=>exact ⟨a,e,1,rfl,rfl,rfl,ha,HP.out,he,HI.out,za _ _⟩
 case round =>
  obtain ⟨a',e',r,rfl,rfl,rfl,Ho,xk,he',H,Ab⟩:=hrel;have Qo:=ia kf Ab;have cf:=Qo.cell;by_cases h0:e'=0
  ·subst h0
   have HE:=zH (show r=n by have:=H.out;rw [Nat.pow_zero,Yr,Fj xk] at this;exact this)
   go_wp2;go_ret
   exact ⟨by rw [HE.out];rfl,da.trans (Ab.mono da.size)⟩
  ·have g1:(0:Int)<e':=by omega
   obtain ⟨f,hf⟩:=zEX (e' / 2);have e1:(e':Int) / 2=(f:Int):=by omega
   have eb:bits BinOp.and vn (e':Int) 1=((e'%2:Nat):Int):=by
    have:=bits_and_u64_nat e' 1 he' (by omega)
    rw [Nat.and_one_is_mod] at this;exact this
   rcases (show e'%2=1 \/ e'%2=0 by omega) with dh | dh
   ·rw [dh] at eb
    have HF:=zH hf;have Le:=zH (fun w=>HM.out r a' w xk Ho)
    have HX:=p5 p r a' e' n H.out dh;rw [<- hf] at HX;have re:r*a'%p<p:=ic _ (by have:=HP.out;omega)
    generalize r*a'%p=s at *;have xG:=fun (Oq:f=0)=>show s*a'^f%p=n by rw [Oq,Nat.pow_zero] at HX |-;exact HX
    replace HX:=zH HX;replace xG:=zH xG;clear dh hf;go_wp2_with fail
    refine (Le.out _).mono ?_;rintro e w1 ⟨rfl,Ca⟩;replace Qo:=Qo.below Ca Qo.lt;replace Ab:=zx Ab Ca Ab.size;clear cf Ca;have cf:=Qo.cell;by_cases Oq:f=0
    ·have d3:decide (0<f)=false:=xb (by omega)
     have AD:=zH Oq;clear Oq;go_wp2_with fail
     go_roundw
     case rel=>exact ⟨a',f,s,rfl,rfl,rfl,Ho,re,by have:=HF.out;omega,xG.out AD.out,Ab⟩
     case measure=>have:=HF.out;simp [intOf];omega
    ·have g3:(0:Int)<f:=by omega
     have HQ:=zH (fun w=>HM.out a' a' w Ho Ho)
     have Tp:a'*a'%p<p:=ic _ (by have:=HP.out;omega)
     have HN2:=zH HX.out;generalize a'*a'%p=q at *;go_wp2_with fail
     refine (HQ.out _).mono ?_;rintro e w2 ⟨rfl,Aa⟩;replace Ab:=zx Ab Aa Ab.size;go_wp2
     go_roundw
     case rel=>exact ⟨q,f,s,rfl,rfl,rfl,Tp,re,by have:=HF.out;omega,HN2.out,Ab⟩
     case measure=>have:=HF.out;simp [intOf];omega
   ·rw [dh] at eb
    have HF:=zH hf;have HX:=Y4 p r a' e' n H.out dh;rw [<- hf] at HX;have xG:=fun (Oq:f=0)=>show r*a'^f%p=n by rw [Oq,Nat.pow_zero] at HX |-;exact HX
    replace HX:=zH HX;replace xG:=zH xG;clear dh hf;by_cases Oq:f=0
    ·have d3:decide (0<f)=false:=xb (by omega)
     have AD:=zH Oq;clear Oq;go_wp2_with fail
     go_roundw
     case rel=>exact ⟨a',f,r,rfl,rfl,rfl,Ho,xk,by have:=HF.out;omega,xG.out AD.out,Ab⟩
     case measure=>have:=HF.out;simp [intOf];omega
    ·have g3:(0:Int)<f:=by omega
     have HQ:=zH (fun w=>HM.out a' a' w Ho Ho)
     have Tp:a'*a'%p<p:=ic _ (by have:=HP.out;omega)
     have HN2:=zH HX.out;generalize a'*a'%p=q at *;go_wp2_with fail
     refine (HQ.out _).mono ?_;rintro e w2 ⟨rfl,Aa⟩;replace Ab:=zx Ab Aa Ab.size;go_wp2
     go_roundw
     case rel=>exact ⟨q,f,r,rfl,rfl,rfl,Tp,xk,by have:=HF.out;omega,HN2.out,Ab⟩
     case measure=>have:=HF.out;simp [intOf];omega
theorem Gq (p a b:Nat) (w:vw) (hp:Ib p=true) :
  vB prog 142 #[fv p,vd vn a,vd vn b] w fun e w'=>e=vl (vd vn ((a*b%p:Nat):Int)) /\ vA w.1.size w w':=by
 have Af:0<p:=by have:=Nb hp;omega
 have HV:=zH (fun w=>Eo p w hp)
 have HA:=zH (fun w=>EB p a w Af)
 have HB:=zH (fun w=>EB p b w Af)
 have HS:=zH (fun w=>MN p (a%p) (b%p) w hp (ic _ Af) (ic _ Af))
 rw [<- Nat.mul_mod] at HS;clear hp Af;generalize a*b%p=r at *;generalize a%p=x at *;generalize b%p=y at *;unfold fv at *;have da:vA w.1.size w (w.alloc (.cells #[vd vn p] 224)):=(za _ _).alloc zR _;have kf:=Blk.new w 224 #[vd vn p];go_enter func142,ntmps142
 go_wp2_with fail
 refine (HV.out _).mono ?_;rintro e' w1 ⟨rfl,Ca⟩;replace kf:=ia kf Ca;replace da:=ma da Ca;clear Ca;have cf:=kf.cell;have lf:=kf.lt;go_wp2_with fail
 refine Ve (Tb) (pa) [] [] [0,1,2,3,4,5,6,7,8] (by kernel_rfl) (by kernel_rfl) ?_
 refine Xe (pa) ?_;intro Wc ea;refine Ee ?_;refine Uc (pa) rfl rfl rfl rfl (fun _ _ _ h=>h) (fun _=>by go_simp <;> rfl) (fun w' hR=>HA.out _) ?_
 refine zPU ?_;refine Ee ?_;refine Uc (pa) rfl rfl rfl rfl (fun _ _ _ h=>h) (fun _=>by go_simp <;> rfl) (fun w' hR=>HB.out _) ?_
 refine zPU ?_;refine Ee ?_;refine Uc (pa) rfl rfl rfl rfl (fun _ _ _ h=>h) (fun _=>by go_simp <;> rfl) (fun w' hR=>HS.out _) ?_
 refine zPU ?_;refine Ee ?_;refine Hr rfl ?_;intro wd ke;replace ea:=(pa).trans _ _ _ ea ke;clear ke;go_wp2;go_ret
 exact ⟨rfl,ma da.drew ea⟩
theorem zBf (p a n:Nat) (w:vw) (hp:Ib p=true) (hn:n<18446744073709551616) :
  vB prog 314 #[fv p,vd vn a,vd vn n] w fun e w'=>e=vl (vd vn ((a^n%p:Nat):Int)) /\ vA w.1.size w w':=by
 have Af:0<p:=by have:=Nb hp;omega
 have HV:=zH (fun w=>Eo p w hp)
 have HA:=zH (fun w=>EB p a w Af)
 have HS:=zH (fun w=>UR p (a%p) n w hp (ic _ Af) hn)
 rw [<- Nat.pow_mod] at HS;clear hp Af hn;generalize a^n%p=r at *;generalize a%p=x at *;unfold fv at *;have da:vA w.1.size w (w.alloc (.cells #[vd vn p] 224)):=(za _ _).alloc zR _;have kf:=Blk.new w 224 #[vd vn p];go_enter func314,ntmps314
 go_wp2_with fail
 refine (HV.out _).mono ?_;rintro e' w1 ⟨rfl,Ca⟩;replace kf:=ia kf Ca;replace da:=ma da Ca;clear Ca;have cf:=kf.cell;have lf:=kf.lt;go_wp2_with fail
 refine Ve (Tb) (pa) [] [] [0,1,2,3,4,5,6] (by kernel_rfl) (by kernel_rfl) ?_
 refine Xe (pa) ?_;intro Wc ea;refine Ee ?_;refine Uc (pa) rfl rfl rfl rfl (fun _ _ _ h=>h) (fun _=>by go_simp <;> rfl) (fun w' hR=>HA.out _) ?_
 refine zPU ?_;refine Ee ?_;refine Uc (pa) rfl rfl rfl rfl (fun _ _ _ h=>h) (fun _=>by go_simp <;> rfl) (fun w' hR=>HS.out _) ?_
 refine zPU ?_;refine Ee ?_;refine Hr rfl ?_;intro wd ke;replace ea:=(pa).trans _ _ _ ea ke;clear ke;go_wp2;go_ret
 exact ⟨rfl,ma da.drew ea⟩
theorem MX (p a:Nat) (w:vw) (hp:Ib p=true) :
  vB prog 230 #[fv p,vd vn a] w fun e w'=>e=vl (vd vn ((a^(p-2)%p:Nat):Int)) /\ vA w.1.size w w':=by
 obtain ⟨Ed,uc⟩:=Nb hp;have HV:=zH (fun w=>Eo p w hp)
 have HA:=zH (fun w=>EB p a w (by omega))
 have HS:=zH (fun w=>UR p (a%p) (p-2) w hp (ic _ (by omega)) (by omega))
 have e1:vn.wrap ((p:Int)-2)=((p-2:Nat):Int):=Hy p 2 (by omega) uc
 have e2:(p:Int)-2=((p-2:Nat):Int):=by omega
 have e3:vn.wrap ((p-2:Nat):Int)=((p-2:Nat):Int):=Ek _ (by omega)
 rw [<- Nat.pow_mod] at HS;clear hp Ed uc;generalize a^(p-2)%p=r at *;generalize a%p=x at *;generalize p-2=m at *;unfold fv at *;have da:vA w.1.size w (w.alloc (.cells #[vd vn p] 224)):=(za _ _).alloc zR _;have kf:=Blk.new w 224 #[vd vn p];go_enter func230,ntmps230
 go_wp2_with fail
 refine (HV.out _).mono ?_;rintro e' w1 ⟨rfl,Ca⟩;replace kf:=ia kf Ca;replace da:=ma da Ca;clear Ca;have cf:=kf.cell;have lf:=kf.lt;go_wp2_with fail
 refine Ve (Tb) (pa) [] [] [0,1,2,3,4,5,6,7,8] (by kernel_rfl) (by kernel_rfl) ?_
 refine Xe (pa) ?_;intro Wc ea;refine Ee ?_;refine Uc (pa) rfl rfl rfl rfl (fun _ _ _ h=>h) (fun _=>by go_simp <;> rfl) (fun w' hR=>HA.out _) ?_
 refine zPU ?_;refine Ee ?_;refine Uc (pa) rfl rfl rfl rfl (fun _ _ _ h=>h) (fun _=>by go_simp <;> rfl) (fun w' hR=>HS.out _) ?_
 refine zPU ?_;refine Ee ?_;refine Hr rfl ?_;intro wd ke;replace ea:=(pa).trans _ _ _ ea ke;clear ke;go_wp2;go_ret
 exact ⟨rfl,ma da.drew ea⟩
def Rf (p a:Nat):Nat:=if a%p=0 then 0 else p-a%p
theorem OX (p a:Nat) (w:vw) (hp:Ib p=true) :
  vB prog 147 #[fv p,vd vn a] w fun e w'=>e=vl (vd vn (Rf p a:Int)) /\ vA w.1.size w w':=by
 obtain ⟨Ed,uc⟩:=Nb hp;have HA:=zH (fun w=>dH p a w hp)
 have hx:a%p<p:=ic _ (by omega)
 have HN:=zH (show Rf p a=if a%p=0 then 0 else p-a%p from rfl)
 clear hp;generalize Rf p a=r at *;generalize a%p=x at *;by_cases h0:x=0
 ·have HR:=zH (show r=0 by rw [HN.out,Qa h0])
  subst h0;unfold fv at *;have da:vA w.1.size w (w.alloc (.cells #[vd vn p] 224)):=(za _ _).alloc zR _;have kf:=Blk.new w 224 #[vd vn p];go_enter func147,ntmps147
  go_wp2_with fail
  refine (HA.out _).mono ?_;rintro e' w1 ⟨rfl,Ca⟩;go_wp2;go_ret
  exact ⟨by rw [HR.out];rfl,ma da Ca⟩
 ·have HR:=zH (show r=p-x by rw [HN.out,La h0])
  have d1:((x:Int) == 0)=false:=by rw [pd];omega
  have e1:vn.wrap ((p:Int)-x)=((p-x:Nat):Int):=Hy p x (by omega) uc
  rw [HR.out];clear hx Ed uc h0 HR HN;generalize p-x=z at *;unfold fv at *;have da:vA w.1.size w (w.alloc (.cells #[vd vn p] 224)):=(za _ _).alloc zR _;have kf:=Blk.new w 224 #[vd vn p];go_enter func147,ntmps147
  go_wp2_with fail
  refine (HA.out _).mono ?_;rintro e' w1 ⟨rfl,Ca⟩;replace kf:=ia kf Ca;have cf:=kf.cell;go_wp2;go_ret
  exact ⟨rfl,ma da Ca⟩
theorem kL (p a b:Nat) (w:vw) (hp:Ib p=true) :
  vB prog 219 #[fv p,vd vn a,vd vn b] w fun e w'=>e=vl (vd vn (((a+Rf p b)%p:Nat):Int)) /\ vA w.1.size w w':=by
 have HN:=zH (fun w=>OX p b w hp)
 have HS:=zH (fun w=>xm p a (Rf p b) w hp)
 clear hp;generalize (a+Rf p b)%p=r at *;generalize Rf p b=x at *;unfold fv at *;have da:vA w.1.size w (w.alloc (.cells #[vd vn p] 224)):=(za _ _).alloc zR _;have kf:=Blk.new w 224 #[vd vn p];go_enter func219,ntmps219
 have cf:=kf.cell;have lf:=kf.lt;go_wp2_with fail
 refine Ve (Tb) (pa) [] [] [0,1,2,3,4,5,6] (by kernel_rfl) (by kernel_rfl) ?_
 refine Xe (pa) ?_;intro Wc ea;refine Ee ?_;refine Uc (pa) rfl rfl rfl rfl (fun _ _ _ h=>h) (fun _=>by go_simp <;> rfl) (fun w' hR=>HN.out _) ?_
 refine zPU ?_;refine Ee ?_;refine Uc (pa) rfl rfl rfl rfl (fun _ _ _ h=>h) (fun _=>by go_simp <;> rfl) (fun w' hR=>HS.out _) ?_
 refine zPU ?_;refine Ee ?_;refine Hr rfl ?_;intro wd ke;replace ea:=(pa).trans _ _ _ ea ke;clear ke;go_wp2;go_ret
 exact ⟨rfl,ma da.drew ea⟩
structure St where
 a:Nat
 b:Nat
 c:Nat
def St.val (s:St):vx:=vf #[vd vn s.a,vd vn s.b,vd vn s.c]
def St.cs (s:St):Array vx:=#[vd vn s.a,vd vn s.b,vd vn s.c]
def St.ok (s:St):Prop:=s.a<18446744073709551616 /\ s.b<18446744073709551616 /\ s.c<18446744073709551616
def xt (k:Nat):Nat:=k*11400714819323198485%18446744073709551616
def Aq (p r i:Nat):Nat:=xt (3*r+i+1)%p
def Mn (p:Nat) (s:St):Nat:=((s.a+s.b)%p+s.c)%p
def OC (p:Nat) (s:St):St:=⟨(s.a+Mn p s)%p,(s.b+Mn p s)%p,(s.c+Mn p s)%p⟩
theorem zDP (p r i:Nat) (w:vw) (hp:Ib p=true) (hr:r<8) (hi:i<3) :
  vB prog 315 #[vd vn p,vd vq r,vd vq i] w fun e w'=>e=vl (vd vn (Aq p r i:Int)) /\ vA w.1.size w w':=by
 have HR:=zH (fun w=>dH p (xt (3*r+i+1)) w hp)
 have HC:=zH (show Aq p r i=xt (3*r+i+1)%p from rfl)
 rw [HC.out];clear HC hp;obtain ⟨k,hk⟩:=zEX (3*r+i+1);rw [<- hk] at HR |-;have g1:(r:Int)<8:=by omega
 have g2:(i:Int) <= 2:=by omega
 have e1:3*(r:Int)+i+1=(k:Int):=by omega
 have e2:vn.wrap (k:Int)=k:=Ek _ (by omega)
 have e3:vn.wrap ((k:Int)*11400714819323198485)=(xt k:Int):=by
  rw [Ei];have:((k:Int)*11400714819323198485)=((k*11400714819323198485:Nat):Int):=by rw [ig];rfl
  rw [this]
  rfl
 clear hk hr hi;generalize xt k%p=m at *;generalize xt k=z at *;unfold fv at *;go_enter func315,ntmps315
 go_wp2_with fail
 refine (HR.out _).mono ?_;rintro e w1 ⟨rfl,hb⟩;go_wp2;go_ret
 exact ⟨rfl,hb⟩
theorem zDT (p:Nat) (s:St) (w:vw) (hp:Ib p=true) :
  vB prog 316 #[vd vn p,s.val] w fun e w'=>e=vl (OC p s).val /\ vA w.1.size w w':=by
 obtain ⟨a,b,c⟩:=s;have H1:=zH (fun w=>xm p a b w hp)
 have H2:=zH (fun w=>xm p ((a+b)%p) c w hp)
 have H3:=zH (fun w=>xm p a (Mn p ⟨a,b,c⟩) w hp)
 have H4:=zH (fun w=>xm p b (Mn p ⟨a,b,c⟩) w hp)
 have H5:=zH (fun w=>xm p c (Mn p ⟨a,b,c⟩) w hp)
 have HM:=zH (show (OC p ⟨a,b,c⟩).val=vf #[vd vn (((a+Mn p ⟨a,b,c⟩)%p:Nat):Int),vd vn (((b+Mn p ⟨a,b,c⟩)%p:Nat):Int),vd vn (((c+Mn p ⟨a,b,c⟩)%p:Nat):Int)] from rfl)
 rw [HM.out];have HS:=zH (show ((a+b)%p+c)%p=Mn p ⟨a,b,c⟩ from rfl)
 rw [HS.out] at H2;clear HM HS hp;generalize (a+Mn p ⟨a,b,c⟩)%p=x at *;generalize (b+Mn p ⟨a,b,c⟩)%p=y at *;generalize (c+Mn p ⟨a,b,c⟩)%p=z at *;generalize Mn p ⟨a,b,c⟩=m at *;generalize (a+b)%p=ab at *;unfold St.val;unfold fv at *;simp only;obtain ⟨k1,k2,k3,da,tb⟩:=rn w 298 298 224 #[vd vn a,vd vn b,vd vn c] #[vd vn 0,vd vn 0,vd vn 0] #[vd vn p];go_enter func316,ntmps316
 go_wp2_with fail
 generalize ((w.alloc _).alloc _).alloc _=w0 at k1 k2 k3 da tb |-;have c1:=k1.cell;have c3:=k3.cell;have l1:=k1.lt;have l3:=k3.lt;refine Ve (Tb) (pa) [] [] [0,1,2,3,4,5,6,7,8,9,10] (by kernel_rfl) (by kernel_rfl) ?_
 refine Xe (pa) ?_;intro Wc ea;refine Ee ?_;refine Uc (pa) rfl rfl rfl rfl (fun _ _ _ h=>h) (fun _=>by go_simp <;> rfl) (fun w' hR=>H1.out _) ?_
 refine zPU ?_;refine Ee ?_;refine Uc (pa) rfl rfl rfl rfl (fun _ _ _ h=>h) (fun _=>by go_simp <;> rfl) (fun w' hR=>H2.out _) ?_
 refine zPU ?_;refine Ee ?_;refine Hr rfl ?_;intro wd ke;replace ea:=(pa).trans _ _ _ ea ke;clear ke;replace k1:=k1.drew.below ea k1.lt;replace k2:=k2.drew.below ea k2.lt;replace k3:=k3.drew.below ea k3.lt;replace da:=ma da.drew ea;have hsw:w.1.size+1<wd.1.size:=k2.lt;clear c1 c3 l1 l3 ea tb H1 H2;have c1:=k1.cell;have c3:=k3.cell;have l1:=k1.lt;have l3:=k3.lt;go_wp2_with fail
 refine Ve (Tb) (pa) [16] [16] [0,1,2,3,4,5,6,7,8,9,10,11,12,13,14,15,16] (by kernel_rfl) (by kernel_rfl) ?_
 refine Xe (pa) ?_;intro Wc ea;refine kd ?_;refine Uc (pa) rfl rfl rfl rfl (fun _ _ _ h=>h) (fun _=>by go_simp <;> rfl) (fun w' hR=>H3.out _) ?_
 refine zPU ?_;refine kd ?_;refine Uc (pa) rfl rfl rfl rfl (fun _ _ _ h=>h) (fun _=>by go_simp <;> rfl) (fun w' hR=>H4.out _) ?_
 refine zPU ?_;refine kd ?_;refine Uc (pa) rfl rfl rfl rfl (fun _ _ _ h=>h) (fun _=>by go_simp <;> rfl) (fun w' hR=>H5.out _) ?_
 refine zPU ?_;refine kd ?_;refine Ti rfl rfl rfl rfl ?_;intro wh Bc;replace ea:=(pa).trans _ _ _ ea Bc;replace k2:=k2.drew.below ea k2.lt;replace da:=ma da.drew ea;have c2:=k2.cell;have f2:=k2.frozen;have l2:=k2.lt;go_simp;refine ⟨fun h=>Bool.noConfusion h,?_⟩
 have hg:=Xo (w:=wh) (g:=w.1.size+1) (vd vn x) (vd vn y) (vd vn z);have kz:=Wo k2 (vd vn x) (vd vn y) (vd vn z);clear c2 f2 k2;generalize ((vF wh _ _).setCell _ _).setCell _ _=Wf at hg kz |-;have cz:=kz.cell;refine Dj rfl ?_;go_wp2;exact ed (v:=vf #[vd vn x,vd vn y,vd vn z]) (by simp [results,results316,go_sem,cz]) rfl ⟨rfl,da.trans (Ok hg (by omega) (by omega))⟩
def Cr (p r i x:Nat):Nat:=((x+Aq p r i)%p)^(Mb p).2.2%p
def St.at_ (s:St) (i:Nat):Nat:=if i=0 then s.a else if i=1 then s.b else s.c
def zw (f:Nat -> Nat -> Nat) (s:St):Nat -> St
 | 0=>s
 | 1=>⟨f 0 s.a,s.b,s.c⟩
 | 2=>⟨f 0 s.a,f 1 s.b,s.c⟩
 | _=>⟨f 0 s.a,f 1 s.b,f 2 s.c⟩
def roundP (p r:Nat) (s:St):St:=OC p (zw (Cr p r) s 3)
def aq (p:Nat) (s:St):Nat -> St
 | 0=>s
 | r+1=>roundP p r (aq p s r)
def Zp (p:Nat) (s:St):St:=aq p s 8
theorem St.cs_at (s:St) {i:Nat} (h:i<3):s.cs[i]?=vE (vd vn (s.at_ i:Int)):=by
 rcases (show i=0 \/ i=1 \/ i=2 by omega) with rfl | rfl | rfl <;> rfl
theorem o7 (f:Nat -> Nat -> Nat) (s:St) {i:Nat} (h:i<3):(zw f s i).at_ i=s.at_ i:=by
 rcases (show i=0 \/ i=1 \/ i=2 by omega) with rfl | rfl | rfl <;> rfl
theorem p7 (f:Nat -> Nat -> Nat) (s:St) {i:Nat} (h:i<3):(zw f s i).cs.setIfInBounds i (vd vn (f i (s.at_ i):Int))=(zw f s (i+1)).cs:=by
 rcases (show i=0 \/ i=1 \/ i=2 by omega) with rfl | rfl | rfl <;> simp [zw,St.cs,St.at_]
theorem s6 {p:Nat} (h:Ib p=true):(Mb p).1<18446744073709551616 /\ (Mb p).2.2<18446744073709551616:=by
 rcases Bt h with rfl | rfl | rfl | rfl | rfl | rfl | rfl <;> exact ⟨by decide,by decide⟩
theorem W3 (p:Nat) (s:St) (w:vw) (hp:Ib p=true) :
  vB prog 300 #[vd vn p,s.val] w fun e w'=>e=vl (Zp p s).val /\ vA w.1.size w w':=by
 have HV:=zH (fun w=>Eo p w hp)
 have HE:=zH (fun w=>zBe p w hp)
 have HC:=zH (fun r i w hr hi=>zDP p r i w hp hr hi)
 have HA:=zH (fun a b w=>xm p a b w hp)
 have HP:=zH (fun a n w hn=>zBf p a n w hp hn)
 have HM:=zH (fun s w=>zDT p s w hp)
 have Li:=(s6 hp).2;have HSB:=zH (show ∀ r i x,Cr p r i x=((x+Aq p r i)%p)^(Mb p).2.2%p from fun _ _ _=>rfl)
 clear hp;unfold fv at *;generalize (Mb p).2.2=ex at *;have HEL:=zH Li;clear Li;obtain ⟨k1,k2,k3,da,tb⟩:=rn w 298 298 224 s.cs #[vd vn 0,vd vn 0,vd vn 0] #[vd vn p];have HPO:=zH (show (Zp p s).val=(aq p s 8).val from rfl)
 rw [HPO.out];clear HPO;unfold St.cs at k1 k2 k3 da tb;have ev:s.val=vf #[vd vn s.a,vd vn s.b,vd vn s.c]:=rfl;rw [ev];clear ev;go_enter func300,ntmps300
 go_wp2_with fail
 generalize ((w.alloc _).alloc _).alloc _=w0 at k1 k2 k3 da tb |-;refine (HV.out _).mono ?_;rintro e w1 ⟨rfl,Ca⟩;replace k1:=ia k1 Ca;replace k2:=ia k2 Ca;replace k3:=ia k3 Ca;replace da:=ma da Ca;clear Ca tb;have c3:=k3.cell;go_wp2_with fail
 refine (HE.out _).mono ?_;rintro e w2 ⟨rfl,Aa⟩;replace k1:Blk w2 w.1.size 298 (aq p s 0).cs:=ia k1 Aa;replace k2:=ia k2 Aa;replace k3:=ia k3 Aa;replace da:=ma da Aa;clear Aa c3 HV HE;go_wp2_with fail
 go_loopw [17] (fun i wr=>∃ r:Nat,r <= 8 /\ i=vd vq r /\ Blk wr w.1.size 298 (aq p s r).cs /\ Blk wr (w.1.size+1) 298 #[vd vn 0,vd vn 0,vd vn 0] /\ Blk wr (w.1.size+1+1) 224 #[vd vn p] /\ vA w.1.size w wr) (fun i _=>8-(intOf i).toNat)
 case atStart=>exact ⟨0,Lb _,rfl,k1,k2,k3,da⟩
 case round =>
  clear k1 k2 k3 da;obtain ⟨r,hr,rfl,k1,k2,k3,da⟩:=hrel;by_cases ra:r<8
  ·have g1:(r:Int)<8:=by omega
   obtain ⟨t,ht⟩:=zEX (aq p s r);rw [<- ht] at k1;have HT:=zH (show aq p s (r+1)=OC p (zw (Cr p r) t 3) by rw [aq,<- ht];rfl)
   clear ht;go_wp2_with fail
   go_loopw [20] (fun i wr=>∃ m:Nat,m <= 3 /\ i=vd vq m /\ Blk wr w.1.size 298 (zw (Cr p r) t m).cs /\ Blk wr (w.1.size+1) 298 #[vd vn 0,vd vn 0,vd vn 0] /\ Blk wr (w.1.size+1+1) 224 #[vd vn p] /\ vA w.1.size w wr) (fun i _=>3-(intOf i).toNat)
   case atStart=>exact ⟨0,Lb _,rfl,k1,k2,k3,da⟩
   case round =>
    clear k1 k2 k3 da;obtain ⟨m,hm,rfl,k1,k2,k3,da⟩:=hrel;by_cases xf:m<3
    ·have g2:(m:Int)<3:=by omega
     have cm:=k1.cell m;rw [St.cs_at _ xf,o7 _ _ xf] at cm;have JK:=zH (p7 (Cr p r) t xf);have ZA:=zH (HSB.out r m (t.at_ m));have tl:=zH (fun w=>HC.out r m w ra xf)
     have xe:=zH (fun w=>HA.out (t.at_ m) (Aq p r m) w)
     have Qr:=zH (fun w=>HP.out ((t.at_ m+Aq p r m)%p) ex w HEL.out)
     rw [<- ZA.out] at Qr;clear ZA;generalize Cr p r m (t.at_ m)=sv at *;generalize (t.at_ m+Aq p r m)%p=av at *;generalize Aq p r m=cv at *;generalize t.at_ m=xv at *;have c3:=k3.cell;have l1:=k1.lt;have l3:=k3.lt;go_wp2_with fail
     refine Ve (Tb) (pa) [14] [14] [0,1,2,3,4,5,6,7,8,9,10,11,12,13,14] (by kernel_rfl) (by kernel_rfl) ?_
     refine Xe (pa) ?_;intro Wc ea;refine kd ?_;refine Uc (pa) rfl rfl rfl rfl (fun _ _ _ h=>h) (fun _=>by go_simp <;> rfl) (fun w' hR=>tl.out _) ?_
     refine zPU ?_;refine kd ?_;refine Uc (pa) rfl rfl rfl rfl (fun _ _ _ h=>h) (fun _=>by go_simp <;> rfl) (fun w' hR=>xe.out _) ?_
     refine zPU ?_;refine kd ?_;refine Uc (pa) rfl rfl rfl rfl (fun _ _ _ h=>h) (fun _=>by go_simp <;> rfl) (fun w' hR=>Qr.out _) ?_
     refine zPU ?_;refine kd ?_;refine Ti rfl rfl rfl rfl ?_;intro wh Bc;replace ea:=(pa).trans _ _ _ ea Bc;replace k1:=k1.drew.below ea k1.lt;replace k2:=k2.drew.below ea k2.lt;replace k3:=k3.drew.below ea k3.lt;replace da:=ma da.drew ea;have f1:=k1.frozen m;have jv:wh.cell? ⟨w.1.size,m,vD⟩=vE (vd vn xv):=RW ea cm;clear c3 l1 l3 cm;go_simp;refine ⟨fun h=>Bool.noConfusion h,?_⟩
     have hg:wh.grownBy (wh.setCell ⟨w.1.size,m,vD⟩ (vd vn sv)) (vE w.1.size):=Mf (p:=⟨w.1.size,m,vD⟩) (Vd wh _) (.inl rfl) _;replace k1:=k1.set_ m (vd vn sv);rw [JK.out] at k1;replace k2:=k2.grown hg (fun e=>by have:=db e;omega)
     replace k3:=k3.grown hg (fun e=>by have:=db e;omega)
     replace da:=da.trans (Ok hg da.size zR);clear hg f1 jv;generalize wh.setCell _ _=Wf at k1 k2 k3 da |-;refine Dj rfl ?_;go_wp2
     go_roundw
     case rel=>exact ⟨m+1,by omega,by go_num,k1,k2,k3,da⟩
     case measure=>simp [intOf];omega
    ·obtain rfl:m=3:=by omega
     obtain ⟨q,hq⟩:=zEX (zw (Cr p r) t 3);rw [<- hq] at k1 HT;clear hq;have Yf:Blk wr w.1.size 298 #[vd vn q.a,vd vn q.b,vd vn q.c]:=k1;obtain ⟨z,hz⟩:=zEX (OC p q);rw [<- hz] at HT;have Le:=zH (show ∀ w,vB prog 316 #[vd vn p,vf #[vd vn q.a,vd vn q.b,vd vn q.c]] w fun e w'=>e=vl (vf #[vd vn z.a,vd vn z.b,vd vn z.c]) /\ vA w.1.size w w' from fun w=>by rw [hz];exact HM.out q w)
     clear hz k1;have c1:=Yf.cell;go_wp2_with fail
     refine (Le.out _).mono ?_;rintro e w5 ⟨rfl,Wa⟩;replace Yf:=Yf.below Wa Yf.lt;replace k2:=ia k2 Wa;replace k3:=ia k3 Wa;replace da:=ma da Wa;clear Wa c1;have c1:=Yf.cell;have f1:=Yf.frozen;go_wp2_with fail
     have hg:=Xo (w:=w5) (g:=w.1.size) (vd vn z.a) (vd vn z.b) (vd vn z.c);have kz:=Wo Yf (vd vn z.a) (vd vn z.b) (vd vn z.c);replace k2:=k2.grown hg (fun e=>by have:=db e;omega)
     replace k3:=k3.grown hg (fun e=>by have:=db e;omega)
     replace da:=da.trans (Ok hg da.size zR);clear hg c1 f1 Yf;generalize ((vF w5 _ _).setCell _ _).setCell _ _=Wf at kz k2 k3 da |-
     go_roundw
     case rel=>exact ⟨r+1,by omega,by go_num,by rw [HT.out];exact kz,k2,k3,da⟩
     case measure=>simp [intOf];omega
  ·obtain rfl:r=8:=by omega
   obtain ⟨q,hq⟩:=zEX (aq p s 8);rw [<- hq] at k1;have HQ:=zH hq;clear hq;have Yf:Blk wr w.1.size 298 #[vd vn q.a,vd vn q.b,vd vn q.c]:=k1;have c1:=Yf.cell;have c2:=k2.cell;have f2:=k2.frozen;go_wp2_with fail
   have hg:=Xo (w:=wr) (g:=w.1.size+1) (vd vn q.a) (vd vn q.b) (vd vn q.c);have kz:=Wo k2 (vd vn q.a) (vd vn q.b) (vd vn q.c);clear c1 c2 f2 k2;generalize ((vF wr _ _).setCell _ _).setCell _ _=Wf at hg kz |-;have cz:=kz.cell;have hs:=da.size;exact ed (v:=vf #[vd vn q.a,vd vn q.b,vd vn q.c]) (by simp [results,results300,go_sem,cz]) rfl ⟨by rw [<- HQ.out];rfl,da.trans (Ok hg hs (by omega))⟩
theorem Wv {w w':vw} {p:vy} {v:vx} (hR:Tb w w') (h:w.cell? p=vE v):w'.cell? p=vE v:=(Below.cell hR (mf _ _ h)).trans h
def Zc (p:Nat) (pub vars:Int) (rows:List Ya):Bool :=
 Ib p&&!decide (pub<0)&&!decide (vars <= pub)&&!decide (65536<vars)&&!decide ((16384:Int)<rows.length)&&rows.all (Qm p vars)
theorem iM (p:Nat) (pub vars:Int) (A:Option vy) (n c:Nat) (rows:List Ya) (w:vw) (hr:RSl 3 oe w [ve A n c] rows) (hp:p<18446744073709551616) :
  vB prog 110 #[sc p pub vars (ve A n c)] w fun e w'=>e=vl (.bool (Zc p pub vars rows)) /\ vA w.1.size w w':=by
 obtain ⟨A',n',c',he,hlen,He,yf,Ma⟩:=hr;simp at he
 obtain ⟨rfl,rfl,rfl⟩:=he;subst hlen;unfold sc;cases b1:Ib p
 ·have E:=zH (show Zc p pub vars rows=false by simp [Zc,b1])
  have B1:=zH b1;clear b1;go_enter func110,ntmps110
  go_wp2_with (go_at_call 152;refine (Ju p _ hp).mono ?_;rintro e w1 ⟨rfl,hb⟩;rw [B1.out];have hB:=(Blk.new w _ _).below hb (by simp);have Ca:vA w.1.size w w1:=ma ((za _ w).alloc zR _) hb;have t1:w1.cell? ⟨w.1.size,1,vD⟩=vE (vd vq pub):=hB.cell 1;have t2:w1.cell? ⟨w.1.size,2,vD⟩=vE (vd vq vars):=hB.cell 2;have t3:w1.cell? ⟨w.1.size,3,vD⟩=vE (ve A rows.length c):=hB.cell 3;clear hb)
  go_ret
  exact ⟨by rw [E.out];rfl,Ca⟩
 have B1:=zH b1;by_cases z1:pub<0
 ·have E:=zH (show Zc p pub vars rows=false by unfold Zc;rw [yb z1];simp)
  have d1:=yb z1;clear b1;go_enter func110,ntmps110
  go_wp2_with (go_at_call 152;refine (Ju p _ hp).mono ?_;rintro e w1 ⟨rfl,hb⟩;rw [B1.out];have hB:=(Blk.new w _ _).below hb (by simp);have Ca:vA w.1.size w w1:=ma ((za _ w).alloc zR _) hb;have t1:w1.cell? ⟨w.1.size,1,vD⟩=vE (vd vq pub):=hB.cell 1;have t2:w1.cell? ⟨w.1.size,2,vD⟩=vE (vd vq vars):=hB.cell 2;have t3:w1.cell? ⟨w.1.size,3,vD⟩=vE (ve A rows.length c):=hB.cell 3;clear hb)
  go_ret
  exact ⟨by rw [E.out];rfl,Ca⟩
 have d1:=xb z1;by_cases z2:vars <= pub
 ·have E:=zH (show Zc p pub vars rows=false by unfold Zc;rw [yb z2];simp)
  have d2:=yb z2;clear b1;go_enter func110,ntmps110
  go_wp2_with (go_at_call 152;refine (Ju p _ hp).mono ?_;rintro e w1 ⟨rfl,hb⟩;rw [B1.out];have hB:=(Blk.new w _ _).below hb (by simp);have Ca:vA w.1.size w w1:=ma ((za _ w).alloc zR _) hb;have t1:w1.cell? ⟨w.1.size,1,vD⟩=vE (vd vq pub):=hB.cell 1;have t2:w1.cell? ⟨w.1.size,2,vD⟩=vE (vd vq vars):=hB.cell 2;have t3:w1.cell? ⟨w.1.size,3,vD⟩=vE (ve A rows.length c):=hB.cell 3;clear hb)
  go_ret
  exact ⟨by rw [E.out];rfl,Ca⟩
 have d2:=xb z2;by_cases z3:65536<vars
 ·have E:=zH (show Zc p pub vars rows=false by unfold Zc;rw [yb z3];simp)
  have d3:=yb z3;clear b1;go_enter func110,ntmps110
  go_wp2_with (go_at_call 152;refine (Ju p _ hp).mono ?_;rintro e w1 ⟨rfl,hb⟩;rw [B1.out];have hB:=(Blk.new w _ _).below hb (by simp);have Ca:vA w.1.size w w1:=ma ((za _ w).alloc zR _) hb;have t1:w1.cell? ⟨w.1.size,1,vD⟩=vE (vd vq pub):=hB.cell 1;have t2:w1.cell? ⟨w.1.size,2,vD⟩=vE (vd vq vars):=hB.cell 2;have t3:w1.cell? ⟨w.1.size,3,vD⟩=vE (ve A rows.length c):=hB.cell 3;clear hb)
  go_ret
  exact ⟨by rw [E.out];rfl,Ca⟩
 have d3:=xb z3;by_cases z4:(16384:Int)<rows.length
 ·have E:=zH (show Zc p pub vars rows=false by unfold Zc;rw [yb z4];simp)
  have d4:=yb z4;clear b1;go_enter func110,ntmps110
  go_wp2_with (go_at_call 152;refine (Ju p _ hp).mono ?_;rintro e w1 ⟨rfl,hb⟩;rw [B1.out];have hB:=(Blk.new w _ _).below hb (by simp);have Ca:vA w.1.size w w1:=ma ((za _ w).alloc zR _) hb;have t1:w1.cell? ⟨w.1.size,1,vD⟩=vE (vd vq pub):=hB.cell 1;have t2:w1.cell? ⟨w.1.size,2,vD⟩=vE (vd vq vars):=hB.cell 2;have t3:w1.cell? ⟨w.1.size,3,vD⟩=vE (ve A rows.length c):=hB.cell 3;clear hb)
  go_ret
  exact ⟨by rw [E.out];rfl,Ca⟩
 have d4:=xb z4;have E:=zH (show Zc p pub vars rows=rows.all (Qm p vars) by unfold Zc;rw [b1,d1,d2,d3,d4];simp)
 clear b1;go_enter func110,ntmps110
 go_wp2_with (go_at_call 152;refine (Ju p _ hp).mono ?_;rintro e w1 ⟨rfl,hb⟩;rw [B1.out];have hB:=(Blk.new w _ _).below hb (by simp);have Ca:vA w.1.size w w1:=ma ((za _ w).alloc zR _) hb;have t1:w1.cell? ⟨w.1.size,1,vD⟩=vE (vd vq pub):=hB.cell 1;have t2:w1.cell? ⟨w.1.size,2,vD⟩=vE (vd vq vars):=hB.cell 2;have t3:w1.cell? ⟨w.1.size,3,vD⟩=vE (ve A rows.length c):=hB.cell 3;clear hb)
 go_loopw [3] (fun i wr=>∃ j:Nat,j <= rows.length /\ i=vd vq j /\ vA w1.1.size w1 wr /\ Hid (∀ k<j,∀ h:k<rows.length,Qm p vars rows[k]=true))
  (fun i _=>rows.length-(intOf i).toNat)
 case atStart=>exact ⟨0,Lb _,rfl,za _ _,fun k hk=>by omega⟩
 case round =>
  obtain ⟨j,hj,rfl,Ab,HB⟩:=hrel;have s3:wr.cell? ⟨w.1.size,3,vD⟩=vE (ve A rows.length c):=(ia hB Ab).cell 3;by_cases ra:j<rows.length
  ·have Ls:Blk wr.drew w.1.size 25 _:=hB.below Ab.drew hB.lt
   have Fb:vA w.1.size w wr.drew:=ma Ca Ab.drew;obtain ⟨b,q,rfl⟩:=Ma.base (by omega) (by omega)
   obtain ⟨cs,-,hc,x,y,z,rfl,Yc,de,Nd⟩:=(Ma.below Bg Fb).get ra;have h0:wr.drew.cell? ⟨b,q+j*3,vD⟩=vE x:=hc 0 (by omega)
   have h1:wr.drew.cell? ⟨b,q+j*3+1,vD⟩=vE y:=hc 1 (by omega)
   have h2:wr.drew.cell? ⟨b,q+j*3+2,vD⟩=vE z:=hc 2 (by omega)
   have HL:=zH ra;have i1:(0:Int)<=j:=by omega
   have i2:(j:Int)<rows.length:=by omega
   clear hc;cases bo:Qm p vars rows[j]
   ·have HO:=zH bo
    clear bo;go_wp2_with fail
    refine EM Tb (by kernel_rfl) ?_
    refine Ul 0 (v:=sc p pub vars (ve (vE ⟨b,q,vD⟩) rows.length c)) pa (by decide) (by kernel_rfl) (by kernel_rfl) (by kernel_rfl) (fun _ _ _ h=>h) (Ft (by rfl) ?_) ?_;· ( intro w' hR;simp only [Gg,jg];unfold sc;have q0:=(ia Ls hR).cell 0;have q1:=(ia Ls hR).cell 1;have q2:=(ia Ls hR).cell 2;have q3:=(ia Ls hR).cell 3;simp at q0 q1 q2 q3;go_simp )
    simp only [vG,Gg,jg,Ba,Fa,Da];refine Ul 1 (v:=?_) pa (by decide) (by kernel_rfl) (by kernel_rfl) (by kernel_rfl) (fun _ _ _ h=>h) (Ft (by rfl) ?_) ?_;rotate_left;· ( intro w' hR;simp only [Gg,jg];go_simp;try with_reducible rfl )
    simp only [vG,Gg,jg,Ba,Fa,Da];refine Ul 2 (v:=ve (vE ⟨b,q,vD⟩) rows.length c) pa (by decide) (by kernel_rfl) (by kernel_rfl) (by kernel_rfl) (fun _ _ _ h=>h) (Ft (by rfl) ?_) ?_;· ( intro w' hR;simp only [Gg,jg];have q3:=(ia Ls hR).cell 3;simp at q3;go_simp )
    simp only [vG,Gg,jg,Ba,Fa,Da];refine Ul 3 (v:=?_) pa (by decide) (by kernel_rfl) (by kernel_rfl) (by kernel_rfl) (fun _ _ _ h=>h) (Ft (by rfl) ?_) ?_;rotate_left;· ( intro w' hR;simp only [Gg,jg];go_simp;try with_reducible rfl )
    simp only [vG,Gg,jg,Ba,Fa,Da];refine Ul 4 (v:=?_) pa (by decide) (by kernel_rfl) (by kernel_rfl) (by kernel_rfl) (fun _ _ _ h=>h) (Ft (by rfl) ?_) ?_;rotate_left;· ( intro w' hR;simp only [Gg,jg];go_simp;try with_reducible rfl )
    simp only [vG,Gg,jg,Ba,Fa,Da];refine Ul 5 (v:=vf #[x,y,z]) pa (by decide) (by kernel_rfl) (by kernel_rfl) (by kernel_rfl) (fun _ _ _ h=>h) (Ft (by rfl) ?_) ?_;· ( intro w' hR;simp only [Gg,jg];have r0:=Wv hR h0;have r1:=Wv hR h1;have r2:=Wv hR h2;go_simp )
    simp only [vG,Gg,jg,Ba,Fa,Da];refine O8 6 pa (by decide) (by kernel_rfl) (by rfl) ((K5 p pub vars (ve (vE ⟨b,q,vD⟩) rows.length c) rows[j] x y z _ Yc de Nd hp).mono ?_) (fun _=>by simp only [Gg,jg];go_simp)
    rintro e w3 ⟨rfl,Ua⟩;rw [HO.out];refine ⟨_,rfl,Ua,?_⟩;simp only [vG,Gg,jg,Ba,Fa,Da];refine Ul 7 (v:=?_) pa (by decide) (by kernel_rfl) (by kernel_rfl) (by kernel_rfl) (fun _ _ _ h=>h) (Ft (by rfl) ?_) ?_;rotate_left;· ( intro w' hR;simp only [Gg,jg];go_simp;try with_reducible rfl )
    simp only [vG,Gg,jg,Ba,Fa,Da];refine wV (by kernel_rfl) ?_
    go_wp2;go_ret
    refine ⟨by rw [E.out,bz.2 ⟨rows[j],wg HL.out,fun h=>Bool.noConfusion (HO.out.symm.trans h)⟩];rfl,ma Fb Ua⟩
   ·have HO:=zH bo
    clear bo;go_wp2_with fail
    refine EM Tb (by kernel_rfl) ?_
    refine Ul 0 (v:=sc p pub vars (ve (vE ⟨b,q,vD⟩) rows.length c)) pa (by decide) (by kernel_rfl) (by kernel_rfl) (by kernel_rfl) (fun _ _ _ h=>h) (Ft (by rfl) ?_) ?_;· ( intro w' hR;simp only [Gg,jg];unfold sc;have q0:=(ia Ls hR).cell 0;have q1:=(ia Ls hR).cell 1;have q2:=(ia Ls hR).cell 2;have q3:=(ia Ls hR).cell 3;simp at q0 q1 q2 q3;go_simp )
    simp only [vG,Gg,jg,Ba,Fa,Da];refine Ul 1 (v:=?_) pa (by decide) (by kernel_rfl) (by kernel_rfl) (by kernel_rfl) (fun _ _ _ h=>h) (Ft (by rfl) ?_) ?_;rotate_left;· ( intro w' hR;simp only [Gg,jg];go_simp;try with_reducible rfl )
    simp only [vG,Gg,jg,Ba,Fa,Da];refine Ul 2 (v:=ve (vE ⟨b,q,vD⟩) rows.length c) pa (by decide) (by kernel_rfl) (by kernel_rfl) (by kernel_rfl) (fun _ _ _ h=>h) (Ft (by rfl) ?_) ?_;· ( intro w' hR;simp only [Gg,jg];have q3:=(ia Ls hR).cell 3;simp at q3;go_simp )
    simp only [vG,Gg,jg,Ba,Fa,Da];refine Ul 3 (v:=?_) pa (by decide) (by kernel_rfl) (by kernel_rfl) (by kernel_rfl) (fun _ _ _ h=>h) (Ft (by rfl) ?_) ?_;rotate_left;· ( intro w' hR;simp only [Gg,jg];go_simp;try with_reducible rfl )
    simp only [vG,Gg,jg,Ba,Fa,Da];refine Ul 4 (v:=?_) pa (by decide) (by kernel_rfl) (by kernel_rfl) (by kernel_rfl) (fun _ _ _ h=>h) (Ft (by rfl) ?_) ?_;rotate_left;· ( intro w' hR;simp only [Gg,jg];go_simp;try with_reducible rfl )
    simp only [vG,Gg,jg,Ba,Fa,Da];refine Ul 5 (v:=vf #[x,y,z]) pa (by decide) (by kernel_rfl) (by kernel_rfl) (by kernel_rfl) (fun _ _ _ h=>h) (Ft (by rfl) ?_) ?_;· ( intro w' hR;simp only [Gg,jg];have r0:=Wv hR h0;have r1:=Wv hR h1;have r2:=Wv hR h2;go_simp )
    simp only [vG,Gg,jg,Ba,Fa,Da];refine O8 6 pa (by decide) (by kernel_rfl) (by rfl) ((K5 p pub vars (ve (vE ⟨b,q,vD⟩) rows.length c) rows[j] x y z _ Yc de Nd hp).mono ?_) (fun _=>by simp only [Gg,jg];go_simp)
    rintro e w3 ⟨rfl,Ua⟩;rw [HO.out];refine ⟨_,rfl,Ua,?_⟩;simp only [vG,Gg,jg,Ba,Fa,Da];refine Ul 7 (v:=?_) pa (by decide) (by kernel_rfl) (by kernel_rfl) (by kernel_rfl) (fun _ _ _ h=>h) (Ft (by rfl) ?_) ?_;rotate_left;· ( intro w' hR;simp only [Gg,jg];go_simp;try with_reducible rfl )
    simp only [vG,Gg,jg,Ba,Fa,Da];refine wV (by kernel_rfl) ?_
    go_wp2
    go_roundw
    case rel =>
     refine ⟨j+1,by omega,by go_num,ma Ab.drew Ua,fun k hk h=>?_⟩
     rcases Hg k j with h5 | h5
     ·exact HB.out k h5 h
     ·have e:k=j:=by omega
      subst e;exact HO.out
    case measure=>simp [intOf];omega
  ·go_wp2
   go_ret
   have e:j=rows.length:=by omega
   refine ⟨by rw [E.out,Xd.2 (fun r hr=>by obtain ⟨k,hk,rfl⟩:=uo hr;exact HB.out k (by omega) hk)];rfl,ma Ca Ab⟩
def Gh (p:Nat) (vars:Int) (l:List Nat):Bool:=!((l.length:Int) != vars)&&!((l.length:Int) == 0)&&!(((l.getD 0 0:Nat):Int) != 1)&&l.all fun x=>decide (x<p)
theorem RWd.at_ {w:vw} {A:Option vy} {l:List Nat} (h:Rd w 1 A l.length (Ia l)) {i:Nat} (hi:i<l.length):∃ ad,A=vE ad /\ w.cell? (ad.add i)=vE (vd vn ((l.getD i 0:Nat):Int)):=by
 obtain ⟨ad,u,rfl,hu,hc⟩:=h.at_ hi;rw [YD hi] at hu
 injection hu with hu
 subst hu;exact ⟨ad,rfl,by simpa [hi] using hc⟩
theorem uU (p:Nat) (pub vars:Int) (T:vx) (A:Option vy) (n c:Nat) (l:List Nat) (w:vw) (hl:RWd w [ve A n c] l) (_hp:p<18446744073709551616) :
  vB prog 111 #[sc p pub vars T,ve A n c] w fun e w'=>e=vl (.bool (Gh p vars l)) /\ vA w.1.size w w':=by
 obtain ⟨A',n',c',he,He,yf,Ma,ra⟩:=hl;simp at he
 obtain ⟨rfl,rfl,rfl⟩:=he;have hlen:=Ma.len1;rw [So] at hlen;subst hlen;unfold sc;have da:∀ o,vA w.1.size w (w.alloc o):=fun o=>(za _ w).alloc zR _
 by_cases z1:(l.length:Int)=vars
 ·subst z1
  rcases xo l.length with z2 | z2
  ·have E:=zH (show Gh p (l.length:Int) l=false by simp [Gh,z2])
   rw [z2];rw [z2] at E;go_enter func111,ntmps111
   go_wp2_with fail
   go_ret
   exact ⟨by rw [E.out];rfl,da _⟩
  ·obtain ⟨ad,rfl,hc⟩:=RWd.at_ (Ma.below (da (.cells #[vd vn p,vd vq pub,vd vq l.length,T] 25))) z2
   have g0:((l.length:Int) == 0)=false:=by rw [pd];omega
   have g1:(0:Int)<l.length:=by omega
   have gm:(l.length:Int) <= 9223372036854775807:=by
    have h3:=He;have h4:=yf;simp [maxLen] at h4
    omega
   by_cases z3:l.getD 0 0=1
   ·have xg:(w.alloc (.cells #[vd vn p,vd vq pub,vd vq l.length,T] 25)).cell? ad=vE (vd vn 1):=by
     rw [z3] at hc
     simpa [Addr.add] using hc
    have E:=zH (show Gh p (l.length:Int) l=l.all fun x=>decide (x<p) by unfold Gh;rw [z3,g0];simp)
    clear hc z3;go_enter func111,ntmps111
    go_wp2_with fail
    go_loopw [5] (fun i wr=>∃ j kk:Nat,j <= l.length /\ i=vd vq j /\ wr=(w.alloc (.cells #[vd vn p,vd vq pub,vd vq l.length,T] 25)).drewN kk /\ Hid (∀ k<j,l.getD k 0<p))
     (fun i _=>l.length-(intOf i).toNat)
    case atStart=>exact ⟨0,0,Lb _,rfl,rfl,fun k hk=>by omega⟩
    case round =>
     obtain ⟨j,kk,hj,rfl,rfl,HB⟩:=hrel;by_cases Tk:j<l.length
     ·obtain ⟨ad',he',hc⟩:=RWd.at_ (Ma.below (da (.cells #[vd vn p,vd vq pub,vd vq l.length,T] 25))) Tk
      injection he' with he'
      subst he';have g2:(0:Int)<=j:=by omega
      have g3:(j:Int)<l.length:=by omega
      have HL:=zH Tk;have HY:Hid (l.getD j 0=l.getD j 0):=rfl;revert hc HY
      generalize hy:l.getD j 0=y;intro hc _;have HY:=zH hy;clear hy;by_cases z4:p <= y
      ·have d4:decide ((p:Int)<=y)=true:=yb (by omega)
       have HZ:=zH z4;clear Ma z4;go_wp2_with fail
       go_quiet (fail)
       go_wp2;go_ret
       have HA:(l.all fun x=>decide (x<p))=false:=by
        refine bz.2 ⟨l[j]'HL.out,wg HL.out,?_⟩;have h1:=HY.out;have h2:=HZ.out;simp [HL.out] at h1
        simp [h1]
        omega
       exact ⟨by rw [E.out,HA];rfl,Ds (Ds (da _) _) _⟩
      ·have d4:decide ((p:Int)<=y)=false:=xb (by omega)
       have HZ:=zH z4;clear Ma z4;go_wp2_with fail
       go_quiet (fail)
       go_wp2
       go_roundw
       case rel =>
        refine ⟨j+1,_,by omega,by go_num,rfl,fun k hk=>?_⟩
        rcases Hg k j with h5 | h5
        ·exact HB.out k h5
        ·have e:k=j:=by omega
         subst e;have h1:=HY.out;have h2:=HZ.out;omega
       case measure=>simp [intOf];omega
     ·go_wp2
      go_ret
      have e:j=l.length:=by omega
      have HA:(l.all fun x=>decide (x<p))=true:=by
       refine Xd.2 ?_;intro x hx;obtain ⟨k,hk,rfl⟩:=uo hx;have:=HB.out k (by omega)
       simpa [hk] using this
      exact ⟨by rw [E.out,HA];rfl,Ds (da _) _⟩
   ·have xg:(w.alloc (.cells #[vd vn p,vd vq pub,vd vq l.length,T] 25)).cell? ad=vE (vd vn ((l.getD 0 0:Nat):Int)):=by simpa [Addr.add] using hc
    have d3:(((l.getD 0 0:Nat):Int) != 1)=true:=by rw [Df];omega
    have E:=zH (show Gh p (l.length:Int) l=false by unfold Gh;rw [d3];simp)
    clear hc z3;revert xg d3
    generalize l.getD 0 0=y;intro xg d3;go_enter func111,ntmps111
    go_wp2_with fail
    go_ret
    exact ⟨by rw [E.out];rfl,da _⟩
 ·have d1:((l.length:Int) != vars)=true:=by rw [Df];exact z1
  have E:=zH (show Gh p vars l=false by simp [Gh,z1])
  go_enter func111,ntmps111
  go_wp2_with fail
  go_ret
  exact ⟨by rw [E.out];rfl,da _⟩
theorem a8 (n k:Nat) (w:vw) (hn:n <= 1000000000) (hk:0<k) (hk2:k <= 1000000000) :
  vB prog 155 #[vd vq n,vd vq k] w fun e w'=>e=vl (vd vq (((n+k-1) / k:Nat):Int)) /\ w'=w:=by
 obtain ⟨m,rfl⟩:∃ m,k=m+1:=⟨k-1,by omega⟩
 have e1:Hid (((n+(m+1)-1) / (m+1):Nat)=(n+m) / (m+1)):=rfl;go_enter func155,ntmps155
 go_wp2_with fail
 go_ret
 refine ⟨?_,rfl⟩;show Ending.returned (vd vq (((n:Int)+((m:Int)+1)-1) / ((m:Int)+1)))=_
 rw [show (n:Int)+((m:Int)+1)-1=((n+(m+1)-1:Nat):Int) from by omega]
 rfl
theorem Cy {w:vw} {A:Option vy} {n:Nat} {xs:List vx} (h:Rd w 1 A n xs) (hn:0<n):∃ b q,A=vE ⟨b,q,vD⟩ /\ b<w.1.size /\ ∀ k,k<n -> w.cell? ⟨b,q+k,vD⟩=xs[k]?:=by
 obtain ⟨ad,rfl,hc⟩:=h.2 hn;have hl:=h.len1;have h0:=hc 0 _ (oc (by omega))
 obtain ⟨b,q,rfl⟩:∃ b q,ad=⟨b,q,vD⟩:=by
  have hs:=World.cell?_spot h0;rw [YV] at hs;obtain ⟨b,q,s⟩:=ad;simp at hs
  subst hs;exact ⟨b,q,rfl⟩
 refine ⟨b,q,rfl,mf _ _ (by rw [YV] at h0;exact h0),fun k hk=>?_⟩
 rw [<- pn,hc k _ (oc (by omega)),oc (by omega)]
def Xq (p:Nat) (ws:List Nat) (s:Nat) (t:Int × Nat):Nat:=if 0 <= t.1 /\ t.1<(ws.length:Int) then (s+t.2*ws.getD t.1.toNat 0%p)%p else s
def Mc (p:Nat) (l:List (Int × Nat)) (ws:List Nat):Nat:=l.foldl (Xq p ws) 0
theorem CO (p:Nat) (l:List (Int × Nat)) (ws:List Nat) (j:Nat) (h:j<l.length):Mc p (l.take (j+1)) ws=Xq p ws (Mc p (l.take j) ws) (l.getD j (0,0)):=by
 unfold Mc;rw [iz h,List.foldl_append];simp [h]
theorem vU (p:Nat) (A B:Option vy) (len c n d:Nat) (l:List (Int × Nat)) (ws:List Nat) (w:vw) (hl:RLin w [ve A len c] l) (hw:RWd w [ve B n d] ws) (hp:Ib p=true) :
  vB prog 149 #[vd vn p,ve A len c,ve B n d] w fun e w'=>e=vl (vd vn (Mc p l ws:Nat)) /\ vA w.1.size w w':=by
 obtain ⟨A',n',c',he,hlen,He,yf,Ma⟩:=hl;simp at he
 obtain ⟨rfl,rfl,rfl⟩:=he;subst hlen;obtain ⟨B',m',d',he,Mv,hmy,Kg,hlw⟩:=hw;simp at he
 obtain ⟨rfl,rfl,rfl⟩:=he;have hm:ws.length=n:=by have:=Kg.len1;rwa [So] at this
 subst hm;have g0:(l.length:Int) <= 9223372036854775807:=by
  simp [maxLen] at yf
  omega
 go_enter func149,ntmps149
 go_wp2_with fail
 go_loopw [7,8] (fun s i wr=>∃ j:Nat,j <= l.length /\ i=vd vq j /\ s=vd vn (Mc p (l.take j) ws:Nat) /\ vA w.1.size w wr)
  (fun _ i _=>l.length-(intOf i).toNat)
 case atStart=>exact ⟨0,Lb _,rfl,rfl,za _ _⟩
 case round =>
  obtain ⟨j,hj,rfl,rfl,hb⟩:=hrel;by_cases ra:j<l.length
  ·have HS:=zH (CO p l ws j ra)
   revert HS
   generalize Mc p (l.take j) ws=s;intro HS;obtain ⟨b,q,rfl⟩:=Ma.base (by omega) (by omega)
   have Ov:=Ma.below lF hb;obtain ⟨c1,c2⟩:=RLin.at_ Ov ra;have Gb:=mf _ _ c1;have HL:=zH ra;have g1:(0:Int)<=j:=by omega
   have g2:(j:Int)<l.length:=by omega
   have HW:=zH (fun (k:Nat) (hk:k<ws.length)=>(Cy (Kg.below hb) (by omega)).imp fun b' h=>h.imp fun q' h=>(⟨h.1,h.2.1,(h.2.2 k hk).trans (YD hk)⟩:_ /\ _ /\ _=vE (vd vn (ws[k]:Int))))
   revert c1 c2 HS
   generalize hx:(l.getD j (0,0))=t;obtain ⟨x,y⟩:=t;clear hx;simp only;intro HS c1 c2;clear Ma Ov Kg;by_cases z1:x<0
   ·have d1:decide (0 <= x)=false:=xb (by omega)
    have HE:=zH (show Mc p (l.take (j+1)) ws=s by rw [HS.out,Xq,La (by simp;omega)])
    go_wp2_with fail
    go_roundw
    case rel=>exact ⟨j+1,by omega,by go_num,by rw [HE.out],hb⟩
    case measure=>simp [intOf];omega
   ·obtain ⟨k,rfl⟩:=Kk (show 0 <= x by omega)
    by_cases z2:k<ws.length
    ·have d1:decide ((0:Int)<=k)=true:=yb (by omega)
     have d2:decide ((k:Int)<ws.length)=true:=yb (by omega)
     obtain ⟨b',q',rfl,Io,c3⟩:=HW.out k z2;have HE:=zH (show Mc p (l.take (j+1)) ws=(s+y*ws[k]%p)%p by rw [HS.out,Xq,Qa (by simp;omega)];show (s+y*ws.getD ((k:Int)).toNat 0%p)%p=_;rw [Lk,Jb,oc z2,Option.getD_some])
     clear HW HS;revert c3 HE
     generalize ws[k]=v;have HM:=zH (fun w=>zP p y v w hp)
     revert HM
     generalize y*v%p=m;intro HM c3 HE;have i1:(0:Int)<=k:=by omega
     have i2:(k:Int)<ws.length:=by omega
     go_wp2_with fail
     refine Cd (Tb) [16,17] [0,1,2,3,4,5,6,7,8,9,10,11,12,13,14,15,16,17,18] (by kernel_rfl) (by kernel_rfl) ?_
     refine Cw (pa) ?_;intro Wc ea;refine Ob ?_;refine Gc (pa) rfl rfl rfl (fun _=>by go_simp <;> rfl) ((HM.out _).mono ?_)
     rintro e w2 ⟨rfl,Aa⟩;refine ⟨_,rfl,Aa,?_⟩;replace ea:=(pa).trans _ _ _ ea (Aa);refine zPU ?_;refine Ob ?_;refine Gc (pa) rfl rfl rfl (fun _=>by go_simp <;> rfl) ((bK p s m _ hp).mono ?_)
     rintro e w3 ⟨rfl,Ua⟩;refine ⟨_,rfl,Ua,?_⟩;replace ea:=(pa).trans _ _ _ ea (Ua);refine zPU ?_;refine Ob ?_;refine Qc ?_;go_wp2
     go_roundw
     case rel=>exact ⟨j+1,by omega,by go_num,by rw [HE.out];rfl,ma hb.drew ea⟩
     case measure=>simp [intOf];omega
    ·have d1:decide ((0:Int)<=k)=true:=yb (by omega)
     have d2:decide ((k:Int)<ws.length)=false:=xb (by omega)
     have HE:=zH (show Mc p (l.take (j+1)) ws=s by rw [HS.out,Xq,La (by simp;omega)])
     go_wp2_with fail
     go_roundw
     case rel=>exact ⟨j+1,by omega,by go_num,by rw [HE.out],hb⟩
     case measure=>simp [intOf];omega
  ·go_wp2
   go_ret
   have e:j=l.length:=by omega
   subst e;exact ⟨by rw [Cp];rfl,hb⟩
def Dy (p:Nat) (r:Ya) (ws:List Nat):Bool:=decide (Mc p r.a ws*Mc p r.b ws%p=Mc p r.c ws)
theorem zET (p:Nat) (x y z:vx) (B:Option vy) (n d:Nat) (r:Ya) (ws:List Nat) (w:vw) (hx:RLin w [x] r.a) (hy:RLin w [y] r.b) (hz:RLin w [z] r.c) (hw:RWd w [ve B n d] ws) (hp:Ib p=true) :
  vB prog 207 #[vd vn p,vf #[x,y,z],ve B n d] w fun e w'=>e=vl (.bool (Dy p r ws)) /\ vA w.1.size w w':=by
 obtain ⟨v1,Mi⟩:=zEX (Mc p r.a ws*Mc p r.b ws%p);obtain ⟨v2,Ni⟩:=zEX (Mc p r.c ws);obtain ⟨ro,TS⟩:∃ ro,ro=Dy p r ws:=⟨_,rfl⟩;have Vf:Hid (((v1:Int)==v2)=ro):=zH (by rw [TS];unfold Dy;rw [<- Mi,<- Ni];exact Bool.eq_iff_iff.2 (by simp;omega))
 rw [<- TS];clear TS;have Ik:=zH Mi;have Ym:=zH Ni;clear Mi Ni;obtain ⟨A1,n1,c1,rfl⟩:=RSl.slc hx;obtain ⟨A2,n2,c2,rfl⟩:=RSl.slc hy;obtain ⟨A3,n3,c3,rfl⟩:=RSl.slc hz;have da:vA w.1.size w (w.alloc (.cells #[ve A1 n1 c1,ve A2 n2 c2,ve A3 n3 c3] 211)):=(za _ w).alloc zR _;have hB:=Blk.new w 211 #[ve A1 n1 c1,ve A2 n2 c2,ve A3 n3 c3];have HP:=zH hp;clear hp;revert da hB
 generalize Jn:w.alloc (.cells #[ve A1 n1 c1,ve A2 n2 c2,ve A3 n3 c3] 211)=w0;intro da hB;have HW0:=zH Jn;clear Jn;have k0:w0.cell? ⟨w.1.size,0,vD⟩=vE (ve A1 n1 c1):=hB.cell 0;have k1:w0.cell? ⟨w.1.size,1,vD⟩=vE (ve A2 n2 c2):=hB.cell 1;have k2:w0.cell? ⟨w.1.size,2,vD⟩=vE (ve A3 n3 c3):=hB.cell 2;have ra:=hB.lt;go_enter func207,ntmps207
 go_wp2_with fail
 rw [HW0.out];refine Cd (Tb) [5,10,11,16] [0,1,2,3,4,6,7,8,9,12,13,14,15,5,10,11,16,17,18] (by kernel_rfl) (by kernel_rfl) ?_
 refine Cw (pa) ?_;intro Wc ea;refine Ob ?_;refine Gc (pa) rfl rfl rfl (fun _=>by go_simp <;> rfl) ((vU p _ _ _ _ _ _ r.a ws _ (gh _ _ _ _ (ma da.drew ea) hx) (Bb (ma da.drew ea) hw) HP.out).mono ?_)
 rintro e w2 ⟨rfl,Aa⟩;refine ⟨_,rfl,Aa,?_⟩;replace ea:=(pa).trans _ _ _ ea (Aa);refine zPU ?_;refine Ob ?_;refine Gc (pa) rfl rfl rfl (fun _=>by go_simp <;> rfl) ((vU p _ _ _ _ _ _ r.b ws _ (gh _ _ _ _ (ma da.drew ea) hy) (Bb (ma da.drew ea) hw) HP.out).mono ?_)
 rintro e w3 ⟨rfl,Ua⟩;refine ⟨_,rfl,Ua,?_⟩;replace ea:=(pa).trans _ _ _ ea (Ua);refine zPU ?_;refine Ob ?_;refine Gc (pa) rfl rfl rfl (fun _=>by go_simp <;> rfl) ((zP p (Mc p r.a ws) (Mc p r.b ws) _ HP.out).mono ?_)
 rintro e w4 ⟨rfl,zb⟩;refine ⟨_,rfl,zb,?_⟩;replace ea:=(pa).trans _ _ _ ea (zb);refine zPU ?_;rw [<- Ik.out];refine Ob ?_;refine Gc (pa) rfl rfl rfl (fun _=>by go_simp <;> rfl) ((vU p _ _ _ _ _ _ r.c ws _ (gh _ _ _ _ (ma da.drew ea) hz) (Bb (ma da.drew ea) hw) HP.out).mono ?_)
 rintro e w5 ⟨rfl,Wa⟩;refine ⟨_,rfl,Wa,?_⟩;replace ea:=(pa).trans _ _ _ ea (Wa);refine zPU ?_;rw [<- Ym.out];have Se:=Vf.out;refine Ob ?_;refine Qc ?_;go_wp2;go_ret
 exact ⟨rfl,ma da.drew ea⟩
def qw (p:Nat) (rows:List Ya) (ws:List Nat):Bool:=rows.all fun r=>Dy p r ws
theorem N6 {p:Nat} {rows:List Ya} {ws:List Nat} (h:∀ k (hk:k<rows.length),Dy p rows[k] ws=true):qw p rows ws=true:=Xd.2 fun r hr=>by
 obtain ⟨k,hk,rfl⟩:=uo hr;exact h k hk
theorem O6 {p:Nat} {rows:List Ya} {ws:List Nat} {k:Nat} (hk:k<rows.length) (h:Dy p rows[k] ws=false):qw p rows ws=false:=by
 cases e:qw p rows ws
 ·rfl
 ·have:=Xd.1 e rows[k] (wg hk)
  rw [h] at this;cases this
theorem TF {p:Nat} {pub vars:Int} {rows:List Ya} (h:Zc p pub vars rows=true):Ib p=true:=by
 unfold Zc at h;simp only [Cc] at h;exact h.1.1.1.1.1
theorem zER (p:Nat) (pub vars:Int) (A B:Option vy) (n c m d:Nat) (rows:List Ya) (ws:List Nat) (w:vw) (hr:RSl 3 oe w [ve A n c] rows) (hw:RWd w [ve B m d] ws)
  (ht:Zc p pub vars rows=true) (ha:Gh p vars ws=true) :
  vB prog 112 #[sc p pub vars (ve A n c),ve B m d] w fun e w'=>(∃ n:Int,e=vl (vd vq n) /\ decide (n<0)=qw p rows ws) /\ vA w.1.size w w':=by
 have ib:=TF ht;have hp:=(Nb ib).2;have HV:=zH (fun w' (hb:vA w.1.size w w')=>iM p pub vars A n c rows w' (Dg Bg _ _ _ _ hb hr) hp)
 have HA:=zH (fun w' (hb:vA w.1.size w w')=>uU p pub vars (ve A n c) B m d ws w' (Bb hb hw) hp)
 rw [ht] at HV;rw [ha] at HA;clear ht ha;have hr0:=hr;obtain ⟨A',n',c',he,hlen,He,yf,Ma⟩:=hr;simp at he
 obtain ⟨rfl,rfl,rfl⟩:=he;subst hlen;unfold sc;have gm:(rows.length:Int) <= 9223372036854775807:=by
  simp [maxLen] at yf
  omega
 have da:vA w.1.size w (w.alloc (.cells #[vd vn p,vd vq pub,vd vq vars,ve A rows.length c] 25)):=(za _ w).alloc zR _;have hB:=Blk.new w 25 #[vd vn p,vd vq pub,vd vq vars,ve A rows.length c];have HP:=zH hp;have HO:=zH ib;clear hp ib;go_enter func112,ntmps112
 go_wp2_with (first | (go_at_call 111;refine (HA.out _ (ma da hb)).mono ?_;rintro e w2 ⟨rfl,Aa⟩) | (go_at_call 110;refine (HV.out _ da).mono ?_;rintro e w1 ⟨rfl,hb⟩;have Md:=hB.below hb (by simp);have t0:w1.cell? ⟨w.1.size,0,vD⟩=vE (vd vn p):=Md.cell 0;have t1:w1.cell? ⟨w.1.size,1,vD⟩=vE (vd vq pub):=Md.cell 1;have t2:w1.cell? ⟨w.1.size,2,vD⟩=vE (vd vq vars):=Md.cell 2;have t3:w1.cell? ⟨w.1.size,3,vD⟩=vE (ve A rows.length c):=Md.cell 3))
 clear t0 t1 t2 t3;have Kh:=ia Md Aa;have Fb:=ma (ma da hb) Aa;clear Md hB hb Aa da;go_loopw [5] (fun i wr=>∃ j:Nat,j <= rows.length /\ i=vd vq j /\ vA w2.1.size w2 wr /\ Hid (∀ k (hk:k<rows.length),k<j -> Dy p rows[k] ws=true))
  (fun i _=>rows.length-(intOf i).toNat)
 case atStart=>exact ⟨0,Lb _,rfl,za _ _,fun k _ hk=>by omega⟩
 case round =>
  obtain ⟨j,hj,rfl,Ab,Jw⟩:=hrel;have Ls:=ia Kh Ab;have t0:wr.cell? ⟨w.1.size,0,vD⟩=vE (vd vn p):=Ls.cell 0;have t3:wr.cell? ⟨w.1.size,3,vD⟩=vE (ve A rows.length c):=Ls.cell 3;have l0:=Ls.lt;by_cases ra:j<rows.length
  ·obtain ⟨b,q,rfl⟩:=Ma.base (by omega) (by omega)
   obtain ⟨cs,-,hc,x,y,z,rfl,hx,hy,hz⟩:=(Ma.below Bg (ma Fb Ab)).get ra;have c0:wr.cell? ⟨b,q+j*3,vD⟩=vE x:=hc 0 (by omega)
   have c1:wr.cell? ⟨b,q+j*3+1,vD⟩=vE y:=hc 1 (by omega)
   have c2:wr.cell? ⟨b,q+j*3+2,vD⟩=vE z:=hc 2 (by omega)
   have l1:b<wr.1.size:=mf _ _ c0;have g1:(0:Int)<=j:=by omega
   have g2:(j:Int)<rows.length:=by omega
   clear hc;go_wp2_with fail
   refine Cd (Tb) [8] [0,1,2,3,4,5,6,7,8,9] (by kernel_rfl) (by kernel_rfl) ?_
   refine Cw (pa) ?_;intro Wc ea;refine Ob ?_;refine Gc (pa) rfl rfl rfl (fun _=>by go_simp <;> rfl) ((zET p x y z B m d rows[j] ws _ (gh _ _ _ _ ea hx) (gh _ _ _ _ ea hy) (gh _ _ _ _ ea hz) (Bb (ma (ma Fb Ab.drew) ea) hw) HO.out).mono ?_)
   rintro e w3 ⟨rfl,Ua⟩;refine ⟨_,rfl,Ua,?_⟩;replace ea:=(pa).trans _ _ _ ea (Ua);refine zPU ?_;refine Ob ?_;refine Qc ?_;have Wb:=zH ra;cases fj:Dy p rows[j] ws
   ·have HBO:=zH fj
    clear fj;go_wp2;go_ret
    exact ⟨⟨_,rfl,(xb (by omega)).trans (O6 Wb.out HBO.out).symm⟩,ma (ma Fb Ab.drew) ea⟩
   ·have HBO:=zH fj
    clear fj;go_wp2
    go_roundw
    case rel =>
     refine ⟨j+1,by omega,by go_num,ma Ab.drew ea,fun k hk hkj=>?_⟩
     by_cases e:k<j
     ·exact Jw.out k hk e
     ·obtain rfl:k=j:=by omega
      exact HBO.out
    case measure=>simp [intOf];omega
  ·have HS:=zH (N6 fun k hk=>Jw.out k hk (by omega))
   go_wp2;go_ret
   exact ⟨⟨_,rfl,(yb (by omega)).trans HS.out.symm⟩,ma Fb Ab⟩
theorem zE2 (p:Nat) (pub vars:Int) (A B:Option vy) (n c m d:Nat) (rows:List Ya) (ws:List Nat) (w:vw) (hr:RSl 3 oe w [ve A n c] rows) (hw:RWd w [ve B m d] ws)
  (ht:Zc p pub vars rows=true) (ha:Gh p vars ws=true) :
  vB prog 51 #[sc p pub vars (ve A n c),ve B m d] w fun e w'=>e=vl (.bool (qw p rows ws)) /\ vA w.1.size w w':=by
 have ib:=TF ht;have hp:=(Nb ib).2;have HV:=zH (fun w' (hb:vA w.1.size w w')=>iM p pub vars A n c rows w' (Dg Bg _ _ _ _ hb hr) hp)
 have HA:=zH (fun w' (hb:vA w.1.size w w')=>uU p pub vars (ve A n c) B m d ws w' (Bb hb hw) hp)
 have HF:=zH (fun w' (hb:vA w.1.size w w')=>zER p pub vars A B n c m d rows ws w' (Dg Bg _ _ _ _ hb hr) (Bb hb hw) ht ha)
 rw [ht] at HV;rw [ha] at HA;clear ht ha hp ib;obtain ⟨A',n',c',he,-⟩:=hr;simp at he
 obtain ⟨rfl,rfl,rfl⟩:=he;unfold sc;have da:vA w.1.size w (w.alloc (.cells #[vd vn p,vd vq pub,vd vq vars,ve A n c] 25)):=(za _ w).alloc zR _;have hB:=Blk.new w 25 #[vd vn p,vd vq pub,vd vq vars,ve A n c];go_enter func51,ntmps51
 go_wp2_with (first | (go_at_call 112;refine (HF.out _ (ma (ma da hb) Aa)).mono ?_;rintro e w3 ⟨⟨x,rfl,hx⟩,Ua⟩) | (go_at_call 111;refine (HA.out _ (ma da hb)).mono ?_;rintro e w2 ⟨rfl,Aa⟩;clear t0 t1 t2 t3;have Kh:=ia Md Aa;have t0:w2.cell? ⟨w.1.size,0,vD⟩=vE (vd vn p):=Kh.cell 0;have t1:w2.cell? ⟨w.1.size,1,vD⟩=vE (vd vq pub):=Kh.cell 1;have t2:w2.cell? ⟨w.1.size,2,vD⟩=vE (vd vq vars):=Kh.cell 2;have t3:w2.cell? ⟨w.1.size,3,vD⟩=vE (ve A n c):=Kh.cell 3) | (go_at_call 110;refine (HV.out _ da).mono ?_;rintro e w1 ⟨rfl,hb⟩;have Md:=hB.below hb (by simp);have t0:w1.cell? ⟨w.1.size,0,vD⟩=vE (vd vn p):=Md.cell 0;have t1:w1.cell? ⟨w.1.size,1,vD⟩=vE (vd vq pub):=Md.cell 1;have t2:w1.cell? ⟨w.1.size,2,vD⟩=vE (vd vq vars):=Md.cell 2;have t3:w1.cell? ⟨w.1.size,3,vD⟩=vE (ve A n c):=Md.cell 3))
 go_ret
 exact ⟨by rw [<- hx];rfl,ma (ma (ma da hb) Aa) Ua⟩
theorem Qb {w:vw} {A:Option vy} {n c:Nat} {l:List Nat} (h:RWd w [ve A n c] l):n=l.length /\ n <= c /\ c <= maxLen /\ (∀ x∈l,x<18446744073709551616) /\ Rd w 1 A n (Ia l):=by
 obtain ⟨A',n',c',he,h1,h2,h3,h4⟩:=h;simp at he
 obtain ⟨rfl,rfl,rfl⟩:=he;have:=h3.len1;rw [So] at this;exact ⟨this.symm,h1,h2,h4,h3⟩
theorem Ie {w:vw} {A:Option vy} {l:List Nat} (h:Rd w 1 A l.length (Ia l)) {j:Nat} (hj:j<l.length):∃ b q,A=vE ⟨b,q,vD⟩ /\ b<w.1.size /\ w.cell? ⟨b,q+j,vD⟩=vE (vd vn ((l.getD j 0:Nat):Int)):=by
 obtain ⟨b,q,e,hb,hc⟩:=Cy h (by omega)
 refine ⟨b,q,e,hb,?_⟩;rw [hc j hj,YD hj,Jb,oc hj]
 rfl
theorem Tl {n c:Nat} (h1:n <= c) (h2:c <= maxLen):(n:Int) <= 9223372036854775807:=by
 simp [maxLen] at h2
 omega
theorem qI {l:List Nat} {B:Nat} (h:∀ x∈l,x<B) {k:Nat} (hk:k<l.length):l.getD k 0<B:=by
 rw [Jb,oc hk];exact h _ (wg _)
theorem JJ (l:List Nat) (k:Nat) (h:k<l.length):l.take (k+1)=l.take k++[l.getD k 0]:=by
 rw [iz h,Jb,oc h]
 rfl
theorem zCG {β:Type} (f:β -> Nat -> β) (b:β) (l:List Nat) (k:Nat) (h:k<l.length):(l.take (k+1)).foldl f b=f ((l.take k).foldl f b) (l.getD k 0):=by
 rw [JJ l k h,List.foldl_append]
 rfl
theorem Om {w:vw} {base:Nat} {e:vz} {A:Option vy} {c n:Nat} {l:List Nat} (h:w.ownsRow base e 1 (ve A n c) n (Ia l)) (hl:∀ x∈l,x<18446744073709551616):RWd w [ve A n c] l:=by
 obtain ⟨A',c',he,h1,h2,h3,-⟩:=ud h;simp at he
 obtain ⟨rfl,rfl⟩:=he;exact ⟨A,n,c,rfl,h1,h2,h3,hl⟩
theorem Sl {W W':vw} {B:Nat} {e:vz} {size:Nat} {v:vx} {n:Nat} {xs:List vx} (h:W.ownsRow B e size v n xs) (hg:W.grownBy W' v.ownBlock) (hB:B <= W.1.size):vA B W W' :=
 qz hg B hB fun g e=>(h.lt g e).1
theorem dA {w:vw} {B m:Nat} {t:vz} {v:vx} {a b c:List Nat} (h:w.ownsRow B t 1 v m (Ia a++Ia b)) (e:a++b=c):w.ownsRow B t 1 v m (Ia c):=by
 rw [<- e,RV];exact h
theorem NC {w:vw} {g:Nat} {t:vz} {l:List Nat} (h:Blk w g t (Ia l).toArray) (hl:∀ x∈l,x<18446744073709551616) (hm:l.length <= maxLen):RWd w [ve (vE ⟨g,0,vD⟩) l.length l.length] l:=by
 refine ⟨_,_,_,rfl,zR,hm,⟨by rw [So,Yr],fun _=>⟨_,rfl,fun j u hu=>?_⟩⟩,hl⟩
 rw [pn,Mk,h.cell]
 simpa using hu
def Oa (n:Nat) (f:Nat -> Nat):Array vx:=((List.range n).map fun k=>vd vn (f k:Int)).toArray
def df (f:Nat -> Nat) (k v:Nat):Nat -> Nat:=fun i=>if i=k then v else f i
theorem Ff {n k:Nat} (f:Nat -> Nat) (h:k<n):(Oa n f)[k]?=vE (vd vn (f k:Int)):=by simp [Oa,h]
theorem Qk {n:Nat} {f g:Nat -> Nat} (h:∀ i,i<n -> f i=g i):Oa n f=Oa n g:=by
 unfold Oa
 congr 1
 exact Uu fun i hi=>by rw [h i (Uh.1 hi)]
theorem Hq {n:Nat} (f:Nat -> Nat) (k v:Nat):(Oa n f).setIfInBounds k (vd vn v)=Oa n (df f k v):=by
 apply Array.ext
 ·simp [Oa]
 ·intro i h1 h2
  simp [Oa] at h1 h2
  rw [Array.getElem_setIfInBounds (by simpa [Oa] using h1)]
  simp only [Oa,df];split
  ·subst_vars;simp
  ·rename_i Ta
   simp [show ¬i=k from fun e=>Ta e.symm]
theorem wv (n:Nat) (f:Nat -> Nat):Oa n f=(Ia ((List.range n).map f)).toArray:=by simp [Oa,Ia]
theorem FB {w:vw} {g n:Nat} {t:vz} {f:Nat -> Nat} (h:Blk w g t (Oa n f)) (hf:∀ i,i<n -> f i<18446744073709551616) (hn:n <= maxLen):RWd w [ve (vE ⟨g,0,vD⟩) n n] ((List.range n).map f):=by
 rw [wv] at h;have:=NC h (fun x hx=>by
  obtain ⟨i,hi,rfl⟩:=ld.1 hx;exact hf i (Uh.1 hi)) (by simpa using hn)
 simpa using this
theorem JO {P:Program} {t e:vz} {size bytes:Nat} {z:vx} (E:Jt P t e size bytes z) (n:Nat) (hb:bytes*n <= 281474976710656) (hn:(n:Int) <= 9223372036854775807) (w:vw) :
  (Instr.makeSlice t (vd vq n) (vd vq n)).run P w= .ok (ve (vE ⟨w.1.size,0,vD⟩) n n) (w.alloc (.cells (madeCells z.cells (n*size)) e)):=by
 obtain ⟨ht,⟨i,hi,hz,hs,Ps⟩,hzs,tb⟩:=E;have:=run_make (P:=P) w t e i z ht hi hz vq vq (n:Int) (n:Int) (by omega) (Int.le_refl _) (by rw [Ps,<- ig];exact Int.ofNat_le.2 hb) hn
 rw [Lk,hs] at this;exact this
theorem zCN (n:Nat):madeCells (vd vn 0).cells (n*1)=Oa n fun _=>0:=by
 apply Array.toList_inj.1
 rw [show (vd vn 0).cells=#[vd vn 0] from rfl,toList_madeCells_one]
 exact List.ext_getElem (by simp [Oa]) fun i h1 h2=>by simp [Oa]
theorem info_w:(prog.info? 22).map (fun i=>(i.zero,i.size,i.bytes))=vE (vE (vd vn 0),1,8):=by kernel_rfl
theorem Hp:Jt prog 28 22 1 8 (vd vn 0):=by
 obtain ⟨i0,hi,sj,Nd,Bf⟩:=info_parts info_w;exact ⟨underlying28,⟨i0,hi,sj,Nd,Bf⟩,rfl,by omega⟩
theorem Yv (n:Nat) (hn:n <= 1000000) (w:vw) :
  (Instr.makeSlice 28 (vd vq n) (vd vq n)).run prog w= .ok (ve (vE ⟨w.1.size,0,vD⟩) n n) (w.alloc (.cells (Oa n fun _=>0) 22)):=by
 have:=JO (P:=prog) Hp n (by omega) (by omega) w
 rw [zCN] at this;exact this
def SU (rows:List Ya):Prop:=∀ r∈rows,r.a.length <= 100000 /\ r.b.length <= 100000 /\ r.c.length <= 100000
def UF (rows:List Ya):Nat:=(rows.map fun r=>r.a.length+r.b.length+r.c.length).sum
def YI (rows:List Ya):Prop:=SU rows -> rows.length+UF rows <= 400
def Z8 (rows:List Ya) (e:Ending):Prop:=∃ b,e=vl (.bool b) /\ (b=true -> YI rows)
theorem zF6 (rows:List Ya) {j:Nat} (h:j<rows.length):UF (rows.take (j+1))=UF (rows.take j)+(rows[j].a.length+rows[j].b.length+rows[j].c.length):=by
 unfold UF;rw [iz h,List.map_append,List.sum_append];simp
theorem RLin.open_ {w:vw} {v:vx} {l:List (Int × Nat)} (h:RLin w [v] l):∃ A n c,v=ve A n c /\ n <= maxLen /\ l.length=n:=by
 obtain ⟨A,n,c,e,h0,h1,h2,-⟩:=h;simp at e
 exact ⟨A,n,c,e,by omega,h0⟩
theorem zE3 (p:Nat) (pub vars:Int) (A:Option vy) (n c:Nat) (rows:List Ya) (w:vw) (hr:RSl 3 oe w [ve A n c] rows) :
  vB prog 89 #[sc p pub vars (ve A n c)] w fun e w'=>Z8 rows e /\ vA w.1.size w w':=by
 obtain ⟨A',n',c',he,hlen,He,yf,Ma⟩:=hr;simp at he
 obtain ⟨rfl,rfl,rfl⟩:=he;subst hlen;unfold sc;have gm:(rows.length:Int) <= 9223372036854775807:=by
  have h3:=He;have h4:=yf;simp [maxLen] at h4
  omega
 obtain ⟨w0,Jn⟩:=zEX (w.alloc (.cells #[vd vn p,vd vq pub,vd vq vars,ve A rows.length c] 25));have da:vA w.1.size w w0:=by rw [Jn];exact (za _ w).alloc zR _
 have hB:Blk w0 w.1.size 25 #[vd vn p,vd vq pub,vd vq vars,ve A rows.length c]:=by rw [Jn];exact Blk.new w _ _
 go_enter func89,ntmps89
 go_wp2_with fail
 rw [<- Jn];have HW:=zH Jn;clear Jn;go_loopw [3,4] (fun s i wr=>∃ (j kk:Nat) (t:Int),j <= rows.length /\ i=vd vq j /\ s=vd vq t /\ wr=w0.drewN kk /\ Hid (SU rows -> t=(rows.length:Int)+(UF (rows.take j):Int)))
  (fun _ i _=>rows.length-(intOf i).toNat)
 case atStart=>exact ⟨0,0,rows.length,Lb _,rfl,rfl,rfl,fun _=>by simp [UF]⟩
 case round =>
  obtain ⟨j,kk,t,hj,rfl,rfl,rfl,HT⟩:=hrel;have s3:(w0.drewN kk).cell? ⟨w.1.size,3,vD⟩=vE (ve A rows.length c):=(hB.drewN kk).cell 3;by_cases ra:j<rows.length
  ·by_cases z1:t <= 400
   ·have d1:=yb z1
    obtain ⟨b,q,rfl⟩:=Ma.base (by omega) (by omega)
    obtain ⟨cs,-,hc,x,y,z,rfl,Yc,de,Nd⟩:=(Ma.below Bg (Ds da kk)).get ra;obtain ⟨A1,n1,c1,rfl,m1,u1⟩:=RLin.open_ Yc;obtain ⟨A2,n2,c2,rfl,m2,u2⟩:=RLin.open_ de;obtain ⟨A3,n3,c3,rfl,m3,u3⟩:=RLin.open_ Nd;have HU:=zH (And.intro ra (And.intro u1 (And.intro u2 u3)));clear u1 u2 u3;have h0:(w0.drewN kk).cell? ⟨b,q+j*3,vD⟩=vE _:=hc 0 (by omega)
    have h1:(w0.drewN kk).cell? ⟨b,q+j*3+1,vD⟩=vE _:=hc 1 (by omega)
    have h2:(w0.drewN kk).cell? ⟨b,q+j*3+2,vD⟩=vE _:=hc 2 (by omega)
    have i1:(0:Int)<=j:=by omega
    have i2:(j:Int)<rows.length:=by omega
    simp [maxLen] at m1 m2 m3 h0 h1 h2
    clear hc Yc de Nd;simp at s3
    go_wp2_with fail
    go_quiet (fail)
    go_wp2
    go_roundw
    case rel =>
     refine ⟨j+1,_,_,by omega,by go_num,rfl,rfl,fun hs=>?_⟩
     obtain ⟨hl,u1,u2,u3⟩:=HU.out;have h1:=HT.out hs;have h2:=hs rows[j] (wg hl);rw [zF6 rows hl];unfold wrap64;omega
    case measure=>simp [intOf];omega
   ·have d1:=xb z1
    go_wp2;go_ret
    exact ⟨⟨_,rfl,fun h=>by simp at h⟩,Ds da _⟩
  ·obtain rfl:j=rows.length:=by omega
   go_wp2;go_ret
   refine ⟨⟨_,rfl,fun h hs=>?_⟩,Ds da _⟩
   have h1:=HT.out hs;rw [Cp] at h1;simp at h
   omega
theorem zBw (n:Nat) (w:vw) (hn:n <= 4096) :
  vB prog 154 #[vd vq n] w fun e w'=>∃ k,e=vl (vd vq ((2^k:Nat):Int)) /\ n <= 2^k /\ 2^k <= 2*n+1 /\ (1 <= n -> 2^k<2*n) /\ w'=w:=by
 go_enter func154,ntmps154
 go_wp2_with fail
 go_loopw [3] (fun i wr=>∃ (k m:Nat),i=vd vq m /\ Hid (m=2^k) /\ 0<m /\ m <= 2*n+1 /\ Hid (1 <= n -> m<2*n) /\ wr=w)
  (fun i _=>2*n+1-(intOf i).toNat)
 case atStart=>exact ⟨0,1,rfl,rfl,by omega,by omega,(fun _=>by omega),by simp⟩
 case round =>
  obtain ⟨k,m,rfl,HM,RE,Gn,HL,rfl⟩:=hrel;by_cases ra:m<n
  ·go_wp2
   go_roundw
   case rel =>
    refine ⟨k+1,2*m,by go_num,?_,by omega,by omega,(fun _=>by omega),by simp⟩
    show 2*m=2^(k+1)
    rw [HM.out,Ig,Fe]
   case measure=>simp [intOf];omega
  ·go_wp2
   go_ret
   refine ⟨k,?_,?_,?_,?_,rfl⟩
   ·rw [<- HM.out];rfl
   ·rw [<- HM.out];omega
   ·rw [<- HM.out];omega
   ·rw [<- HM.out];exact HL.out
structure Ra where
 p:Nat
 block:Nat
 queries:Nat
 k:Nat
 n:Nat
 secret:Nat
 rows:Nat
 a:Nat
 b:Nat
def Db (l:Ra):Array vx:=#[vd vn l.p,vd vq l.block,vd vq l.queries,vd vq l.k,vd vq l.n,vd vq l.secret,vd vq l.rows,vd vq l.a,vd vq l.b,vd vq l.b,vd vq l.b]
def Qf:Array vx:=#[vd vn 0,vd vq 0,vd vq 0,vd vq 0,vd vq 0,vd vq 0,vd vq 0,vd vq 0,vd vq 0,vd vq 0,vd vq 0]
structure Rb (l:Ra):Prop where
 p:Ib l.p=true
 b1:2 <= l.block
 b2:l.block <= 256
 q1:1 <= l.queries
 q2:l.queries <= 64
 k:l.k=l.block+l.queries
 n:∃ j,l.n=2^j
 n2:l.n <= 1024
 s:l.secret <= 65536
 r:l.rows <= 16384
 a:l.a <= 100000
 b:l.b <= 100000
 bj:l.block &&& (l.block-1)=0
 bd:(l.p-1)%l.block=0
 nd:(l.p-1)%l.n=0
 nl:l.n<l.p-1
 nk:2*l.k <= l.n
 ae:l.a=(l.secret+l.block-1) / l.block
 be:l.b=(l.rows+l.block-1) / l.block
def Fo (n:Nat):Nat:=2^((n-1).log2+1)
theorem zBs {n m:Nat} (hn:2 <= n) (h:∃ k,m=2^k) (h1:n <= m) (h2:m<2*n):m=Fo n:=by
 obtain ⟨k,rfl⟩:=h;cases k with
 | zero=>simp at h1;omega
 | succ k =>
  unfold Fo;rw [Ig] at h1 h2;have:(n-1).log2=k:=(Nat.log2_eq_iff (by omega)).2 ⟨by omega,by rw [Ig];omega⟩
  rw [this]
structure NewIn where
 p:Nat
 pub:Int
 vars:Int
 nr:Nat
 bl:Int
 bw:Int
 qs:Int
def NewIn.n (x:NewIn):Nat:=x.bw.toNat*Fo (2*(x.bl.toNat+x.qs.toNat))
def aw (x:NewIn):Int :=
 if x.bl<2 \/ 256<x.bl \/ x.bl.toNat &&& (x.bl.toNat-1)≠0 \/ x.qs<1 \/ 64<x.qs \/ (x.bw≠1 /\ x.bw≠2 /\ x.bw≠4 /\ x.bw≠8) then 1
 else if (x.p-1)%x.bl.toNat≠0 \/ (x.p-1)%x.n≠0 \/ x.p-1 <= x.n then 7
 else if 1024<x.n then 3 else 0
def RO (x:NewIn):Ra:=⟨x.p,x.bl.toNat,x.qs.toNat,x.bl.toNat+x.qs.toNat,x.n,(x.vars-1-x.pub).toNat,x.nr,((x.vars-1-x.pub).toNat+x.bl.toNat-1) / x.bl.toNat,(x.nr+x.bl.toNat-1) / x.bl.toNat⟩
structure ak (L:Ra) (x:NewIn):Prop where
 p:L.p=x.p
 eq:L=RO x
 err:aw x=0
 pub:0 <= x.pub
 vars:x.pub<x.vars
theorem P7 {w w1:vw} {t1 t2 t3:vz} {je Ef Ij:Array vx} (hb:vA (((w.alloc (.cells je t1)).alloc (.cells Ef t2)).alloc (.cells Ij t3)).1.size (((w.alloc (.cells je t1)).alloc (.cells Ef t2)).alloc (.cells Ij t3)) w1) :
  Blk w1 w.1.size t1 je /\ Blk w1 (w.1.size+1) t2 Ef /\ Blk w1 (w.1.size+1+1) t3 Ij /\ vA w.1.size w w1:=by
 refine ⟨(((Blk.new w t1 je).alloc _).alloc _).below hb (by simp;omega),?_,?_,ma ((((za _ w).alloc zR _).alloc (by simp) _).alloc (by simp;omega) _) hb⟩
 ·have:=((Blk.new (w.alloc (.cells je t1)) t2 Ef).alloc (.cells Ij t3)).below hb (by simp)
  simpa using this
 ·have:=(Blk.new ((w.alloc (.cells je t1)).alloc (.cells Ef t2)) t3 Ij).below hb (by simp)
  simpa using this
section
variable {w w0:vw} {g B:Nat} {t:vz} {cs:Array vx}
theorem zFM {y0 y1 y2 y3 y4 y5 y6 y7 y8 y9 ue:vx} (k:Blk w g t #[y0,y1,y2,y3,y4,y5,y6,y7,y8,y9,ue]) (x0 x1 x2 x3 x4 x5 x6 x7 x8 x9 Yn:vx) :
  Blk (((((((((((w.setCell ⟨g,0,vD⟩ x0).setCell ⟨g,1,vD⟩ x1).setCell ⟨g,2,vD⟩ x2).setCell ⟨g,3,vD⟩ x3).setCell ⟨g,4,vD⟩ x4).setCell ⟨g,5,vD⟩ x5).setCell ⟨g,6,vD⟩ x6).setCell ⟨g,7,vD⟩ x7).setCell ⟨g,8,vD⟩ x8).setCell ⟨g,9,vD⟩ x9).setCell ⟨g,10,vD⟩ Yn) g t #[x0,x1,x2,x3,x4,x5,x6,x7,x8,x9,Yn]:=by
 have h:=((((((((((k.set_ 0 x0).set_ 1 x1).set_ 2 x2).set_ 3 x3).set_ 4 x4).set_ 5 x5).set_ 6 x6).set_ 7 x7).set_ 8 x8).set_ 9 x9).set_ 10 Yn
 simpa using h
theorem zFL (h:vA B w0 w) (hg:B <= g) (x0 x1 x2 x3 x4 x5 x6 x7 x8 x9 Yn:vx) :
  vA B w0 (((((((((((w.setCell ⟨g,0,vD⟩ x0).setCell ⟨g,1,vD⟩ x1).setCell ⟨g,2,vD⟩ x2).setCell ⟨g,3,vD⟩ x3).setCell ⟨g,4,vD⟩ x4).setCell ⟨g,5,vD⟩ x5).setCell ⟨g,6,vD⟩ x6).setCell ⟨g,7,vD⟩ x7).setCell ⟨g,8,vD⟩ x8).setCell ⟨g,9,vD⟩ x9).setCell ⟨g,10,vD⟩ Yn) :=
 ((((((((((h.setCell hg x0).setCell hg x1).setCell hg x2).setCell hg x3).setCell hg x4).setCell hg x5).setCell hg x6).setCell hg x7).setCell hg x8).setCell hg x9).setCell hg Yn
theorem gD {y0 y1 y2 y3 y4 y5 y6 y7 y8 y9 ue:vx} (k:Blk w g t #[y0,y1,y2,y3,y4,y5,y6,y7,y8,y9,ue]) (h:vA B w0 w) (x0 x1 x2 x3 x4 x5 x6 x7 x8 x9 Yn:Int) (hg:B <= g:=by omega):∃ wf,(((((((((((w.setCell ⟨g,0,vD⟩ (vd vn x0)).setCell ⟨g,1,vD⟩ (vd vq x1)).setCell ⟨g,2,vD⟩ (vd vq x2)).setCell ⟨g,3,vD⟩ (vd vq x3)).setCell ⟨g,4,vD⟩ (vd vq x4)).setCell ⟨g,5,vD⟩ (vd vq x5)).setCell ⟨g,6,vD⟩ (vd vq x6)).setCell ⟨g,7,vD⟩ (vd vq x7)).setCell ⟨g,8,vD⟩ (vd vq x8)).setCell ⟨g,9,vD⟩ (vd vq x9)).setCell ⟨g,10,vD⟩ (vd vq Yn))=wf /\ Blk wf g t #[vd vn x0,vd vq x1,vd vq x2,vd vq x3,vd vq x4,vd vq x5,vd vq x6,vd vq x7,vd vq x8,vd vq x9,vd vq Yn] /\ vA B w0 wf :=
 ⟨_,rfl,zFM k _ _ _ _ _ _ _ _ _ _ _,zFL h hg _ _ _ _ _ _ _ _ _ _ _⟩
theorem Ct {y0 y1 y2 y3 y4 y5 y6 y7 y8 y9 ue:vx} (k:Blk w g t #[y0,y1,y2,y3,y4,y5,y6,y7,y8,y9,ue]) (h:vA B w0 w) (hg:B <= g:=by omega):type_of% (gD k h 0 0 0 0 0 0 0 0 0 0 0 hg):=gD k h 0 0 0 0 0 0 0 0 0 0 0 hg
theorem NP {y0 y1 y2 y3 y4 y5 y6 y7 y8 y9 ue:vx} (k:Blk w g t #[y0,y1,y2,y3,y4,y5,y6,y7,y8,y9,ue]) (h:vA B w0 w) (L:Ra) (hg:B <= g:=by omega):type_of% (gD k h L.p L.block L.queries L.k L.n L.secret L.rows L.a L.b L.b L.b hg):=gD k h L.p L.block L.queries L.k L.n L.secret L.rows L.a L.b L.b L.b hg
end
theorem aN:∀ b:Fin 257,2 <= b.val -> bits .and vq (b.val:Int) ((b.val:Int)-1)=((b.val &&& (b.val-1):Nat):Int):=by decide +kernel
section
variable (p:Nat) (pub vars:Int) (A:Option vy) (n c:Nat) (rows:List Ya) (bl bw qs:Int) (w:vw)
def Vp:Array vx:=#[sc p pub vars (ve A n c),vf #[vd vq bl,vd vq bw,vd vq qs]]
end
theorem zEW (p:Nat) (pub vars:Int) (A:Option vy) (n c:Nat) (rows:List Ya) (bl bw qs:Int) (w:vw) (hr:RSl 3 oe w [ve A n c] rows) (ht:Zc p pub vars rows=true)
  (h:bl<2 \/ 256<bl \/ bl.toNat &&& (bl.toNat-1)≠0 \/ qs<1 \/ 64<qs \/ (bw≠1 /\ bw≠2 /\ bw≠4 /\ bw≠8)) :
  vB prog 73 (Vp p pub vars A n c bl bw qs) w fun e w'=>e=vl (.tuple #[vf Qf,vd vq 1]) /\ vA w.1.size w w':=by
 have ib:=TF ht;have hp:=(Nb ib).2;have HV:=zH (fun w' (hb:vA w.1.size w w')=>iM p pub vars A n c rows w' (Dg Bg _ _ _ _ hb hr) hp)
 rw [ht] at HV;clear ht ib hp;obtain ⟨A',n',c',he,hlen,-,-,-⟩:=hr;simp at he
 obtain ⟨rfl,rfl,rfl⟩:=he;subst hlen;unfold Vp sc;have da:vA w.1.size w (((w.alloc (.cells #[vd vn p,vd vq pub,vd vq vars,ve A rows.length c] 25)).alloc (.cells #[vd vq bl,vd vq bw,vd vq qs] 27)).alloc (.cells Qf 35)):=(((za _ w).alloc zR _).alloc (by simp) _).alloc (by simp;omega) _
 unfold Qf at da;have key:decide (bl<2)=true \/ decide (bl<2)=false /\ (decide (256<bl)=true \/ decide (256<bl)=false /\ ∃ b:Nat,bl=b /\ (1:Int) <= b /\ (b:Int) <= 256 /\ (0:Int)<=b-1 /\ ∃ r:Nat,bits .and vq (b:Int) ((b:Int)-1)=(r:Int) /\ (((r:Int) != 0)=true \/ r=0 /\ (decide (qs<1)=true \/ decide (qs<1)=false /\ (decide (64<qs)=true \/ decide (64<qs)=false /\ (bw != 1)=true /\ (bw != 2)=true /\ (bw != 4)=true /\ (bw != 8)=true)))):=by
  by_cases h0:bl<2
  ·exact .inl (yb h0)
  refine .inr ⟨xb h0,?_⟩;by_cases h1:256<bl
  ·exact .inl (yb h1)
  refine .inr ⟨xb h1,?_⟩;obtain ⟨b,rfl⟩:=Kk (show 0 <= bl by omega)
  rw [Lk] at h;refine ⟨b,rfl,by omega,by omega,by omega,_,aN ⟨b,by omega⟩ (by show 2 <= b;omega),?_⟩
  by_cases h2:b &&& (b-1)=0
  ·refine .inr ⟨h2,?_⟩
   by_cases h3:qs<1
   ·exact .inl (yb h3)
   refine .inr ⟨xb h3,?_⟩;by_cases h4:64<qs
   ·exact .inl (yb h4)
   refine .inr ⟨xb h4,?_⟩;simp only [Df];omega
  ·exact .inl (by rw [Df];exact fun e=>h2 (Int.ofNat.inj e))
 clear h;rcases key with d1 | ⟨d1,d2 | ⟨d2,b,rfl,i1,i3,i2,r,hand,d3 | ⟨rfl,d4 | ⟨d4,d5 | ⟨d5,e1,e2,e4,e8⟩⟩⟩⟩⟩
 all_goals
  go_enter func73,ntmps73
  go_wp2_with (go_at_call 110;refine (HV.out _ da).mono ?_;rintro e w1 ⟨rfl,hb⟩;obtain ⟨k2,k3,k4,Fb⟩:=P7 hb;have p0:w1.cell? ⟨w.1.size+1,0,vD⟩=vE (vd vq _):=k3.cell 0;have p1:w1.cell? ⟨w.1.size+1,1,vD⟩=vE (vd vq bw):=k3.cell 1;have p2:w1.cell? ⟨w.1.size+1,2,vD⟩=vE (vd vq qs):=k3.cell 2;have c4:=k4.cell;have f4:=k4.frozen;unfold Qf at c4;clear hb)
  obtain ⟨wf,dc,kW,hW⟩:=Ct k4 Fb;rw [dc];clear dc c4 f4 p0 p1 p2 k2 k3 k4;have c4:=kW.cell;exact ed (v:=.tuple #[vf Qf,vd vq 1]) (by simp [results,results73,go_sem,c4,Qf]) rfl ⟨rfl,hW⟩
theorem Vi (x:Int) (h1:-9223372036854775808 <= x) (h2:x <= 9223372036854775807):vq.wrap x=x:=by rw [so];omega
theorem Ce (x:Int) (a:-9223372036854775808 <= x:=by omega) (b:x <= 9223372036854775807:=by omega):vq.wrap x=x:=Vi x a b
theorem zBA (n:Nat) (w:vw) (hn:n <= 4096):vB prog 154 #[vd vq n] w fun e w'=>∃ m,((∃ k,m=2^k) /\ n <= m /\ (1 <= n -> m<2*n)) /\ m <= 2*n+1 /\ e=vl (vd vq m) /\ w'=w :=
 (zBw n w hn).mono fun _ _ ⟨k,he,hl,hm,hs,hw⟩=>⟨2^k,⟨⟨k,rfl⟩,hl,hs⟩,hm,he,hw⟩
def QD (x:NewIn) (e:Ending):Prop:=∃ (lcs:Array vx) (er:Int),e=vl (.tuple #[vf lcs,vd vq er]) /\ ((er≠0 /\ lcs=Qf /\ er=aw x) \/ (er=0 /\ ∃ L,Rb L /\ ak L x /\ lcs=Db L))
theorem UZ {p U V nr b q bw pm N NN:Nat} (h0:2 <= b) (h1:b <= 256) (h2:b &&& (b-1)=0) (h3:1 <= q) (h4:q <= 64) (hw:bw=1 \/ bw=2 \/ bw=4 \/ bw=8) (hp:pm=p-1) (hN:(∃ k,N=2^k) /\ 2*(b+q) <= N /\ (1 <= 2*(b+q) -> N<2*(2*(b+q)))) (Yh:NN=bw*N) :
  NN=NewIn.n ⟨p,U,V,nr,b,bw,q⟩ /\ aw ⟨p,U,V,nr,b,bw,q⟩=if pm%b≠0 \/ pm%NN≠0 \/ pm <= NN then 7 else if 1024<NN then 3 else 0:=by
 have e:=zBs (by omega) hN.1 hN.2.1 (hN.2.2 (by omega))
 have e2:NN=NewIn.n ⟨p,U,V,nr,b,bw,q⟩:=by
  show NN=(bw:Int).toNat*Fo (2*((b:Int).toNat+(q:Int).toNat))
  rw [Yh,e]
  rfl
 refine ⟨e2,?_⟩;unfold aw;rw [<- e2,La]
 ·simp only [Lk,hp]
 ·simp only [Lk]
  omega
theorem zEY (p U V:Nat) (A:Option vy) (n c:Nat) (rows:List Ya) (b q:Nat) (x:Int) (w:vw) (hr:RSl 3 oe w [ve A n c] rows) (ht:Zc p U V rows=true)
  (h0:2 <= b) (h1:b <= 256) (h2:b &&& (b-1)=0) (h3:1 <= q) (h4:q <= 64) (hx:x=1 \/ x=2 \/ x=4 \/ x=8) :
  vB prog 73 (Vp p U V A n c b x q) w fun e w'=>QD ⟨p,U,V,rows.length,b,x,q⟩ e /\ vA w.1.size w w':=by
 obtain ⟨B,t,fh,hBt⟩:∃ B t:Nat,((x=1 /\ B=1) \/ (x=2 /\ B=2) \/ (x=4 /\ B=4) \/ (x=8 /\ B=8)) /\ B=2^t:=by
  rcases hx with rfl | rfl | rfl | rfl
  ·exact ⟨1,0,by simp⟩
  ·exact ⟨2,1,by simp⟩
  ·exact ⟨4,2,by simp⟩
  ·exact ⟨8,3,by simp⟩
 obtain ⟨X,hX⟩:∃ X:NewIn,X=⟨p,U,V,rows.length,b,x,q⟩:=⟨_,rfl⟩;rw [<- hX];have HX:=zH hX;have hX2:X=⟨p,U,V,rows.length,b,(B:Int),q⟩:=by rw [hX,show x=(B:Int) by omega]
 clear hX;obtain ⟨f,hf⟩:∃ f:Nat -> Nat,∀ N,f N=B*N:=⟨_,fun _=>rfl⟩
 have HFN:=zH hf;have HBN:=zH (show ∀ N:Nat,x*(N:Int)=((f N:Nat):Int) from fun N=>by rw [hf,ig,show x=(B:Int) by omega])
 have HBT:=zH hBt;have ib:=TF ht;obtain ⟨Ed,hp⟩:=Nb ib;have HV:=zH (fun w' (hb:vA w.1.size w w')=>iM p U V A n c rows w' (Dg Bg _ _ _ _ hb hr) hp)
 rw [ht] at HV;have hand:=aN ⟨b,by omega⟩ (by show 2 <= b;omega)
 simp only at hand;rw [h2] at hand;have XH:U<V /\ V <= 65536 /\ rows.length <= 16384:=by
  unfold Zc at ht;simp only [Cc,il,qv] at ht;omega
 obtain ⟨t1,t2,t3⟩:=XH;obtain ⟨A',n',c',he,hlen,He,yf,-⟩:=hr;simp at he
 obtain ⟨rfl,rfl,rfl⟩:=he;subst hlen;unfold Vp sc;have da:vA w.1.size w (((w.alloc (.cells #[vd vn p,vd vq U,vd vq V,ve A rows.length c] 25)).alloc (.cells #[vd vq b,vd vq x,vd vq q] 27)).alloc (.cells Qf 35)):=(((za _ w).alloc zR _).alloc (by simp) _).alloc (by simp;omega) _
 unfold Qf at da;have d1:decide ((b:Int)<2)=false:=xb (by omega)
 have d2:decide ((256:Int)<b)=false:=xb (by omega)
 have d4:decide ((q:Int)<1)=false:=xb (by omega)
 have d5:decide ((64:Int)<q)=false:=xb (by omega)
 have i1:(1:Int)<=b:=by omega
 have i2:(0:Int)<=b-1:=by omega
 have i3:(b:Int) <= 256:=by omega
 have i4:(1:Int)<=q:=by omega
 have i5:(q:Int) <= 64:=by omega
 obtain ⟨k,hk⟩:=zEX (b+q);have ek:(b:Int)+q=(k:Int):=by omega
 obtain ⟨s,hs⟩:=zEX (V-1-U);have es:(V:Int)-1-(U:Int)=s:=by omega
 have i6:(V:Int) <= 65536:=by omega
 have i7:(1:Int)<=V:=by omega
 have i8:(k:Int) <= 320:=by omega
 have i9:(0:Int)<=k:=by omega
 obtain ⟨pm,Ys⟩:=zEX (p-1);have ep:vn.wrap ((p:Int)-1)=(pm:Int):=by rw [Ys];exact Hy p 1 (by omega) hp
 have HF:=zH (fun w=>zBA (2*k) w (by omega))
 have ZG:(2:Int)*k=((2*k:Nat):Int):=by omega
 obtain ⟨kk,Us⟩:=zEX (2*k);rw [<- Us] at HF ZG;have ek3:=Ce kk;have j1:kk <= 640:=by omega
 have HB:=zH (And.intro h0 h1);have HQ:=zH (And.intro h3 h4);have HK:=zH hk;have HS:=zH hs;have HT:=zH (And.intro ib (And.intro t1 (And.intro t2 t3)));have gm:(rows.length:Int) <= 16384:=by omega
 have HP:=zH (show pm=p-1 /\ 17 <= p from ⟨Ys,Ed⟩)
 have hb256:vn.wrap (b:Int)=b:=Ek b (by omega)
 have HG:Hid (∀ N NN,((∃ k,N=2^k) /\ 2*(b+q) <= N /\ (1 <= 2*(b+q) -> N<2*(2*(b+q)))) -> NN=B*N -> NN=X.n /\ aw X=if pm%b≠0 \/ pm%NN≠0 \/ pm <= NN then 7 else if 1024<NN then 3 else 0):=zH (by rw [hX2];exact fun N NN hN Yh=>UZ h0 h1 h2 h3 h4 (by omega) Ys hN Yh)
 have Sg:=zH h2;have HKK:=zH (show kk=2*(b+q) by omega)
 clear h0 h1 h2 h3 h4 hk hs Us ib hp Ed ht t1 t2 t3 Ys hX2 hf hBt hx;rcases fh with ⟨rfl,rfl⟩ | ⟨rfl,rfl⟩ | ⟨rfl,rfl⟩ | ⟨rfl,rfl⟩
 all_goals
  go_enter func73,ntmps73
  go_upto_region 4 with (go_at_call 110;refine (HV.out _ da).mono ?_;rintro e w1 ⟨rfl,hb⟩;obtain ⟨k2,k3,k4,Fb⟩:=P7 hb;have p0:w1.cell? ⟨w.1.size+1,0,vD⟩=vE (vd vq b):=k3.cell 0;have p1:w1.cell? ⟨w.1.size+1,1,vD⟩=vE (vd vq _):=k3.cell 1;have p2:w1.cell? ⟨w.1.size+1,2,vD⟩=vE (vd vq q):=k3.cell 2;have c2:=k2.cell;clear hb)
  have k2l:=k2.alloc (.cells #[vd vn p,vd vq b,vd vq q,vd vq k,vd vq 0,vd vq s,vd vq rows.length,vd vq 0,vd vq 0,vd vq 0,vd vq 0] 35);have k3l:=k3.alloc (.cells #[vd vn p,vd vq b,vd vq q,vd vq k,vd vq 0,vd vq s,vd vq rows.length,vd vq 0,vd vq 0,vd vq 0,vd vq 0] 35);have k4l:=k4.alloc (.cells #[vd vn p,vd vq b,vd vq q,vd vq k,vd vq 0,vd vq s,vd vq rows.length,vd vq 0,vd vq 0,vd vq 0,vd vq 0] 35);have k6:=Blk.new w1 35 #[vd vn p,vd vq b,vd vq q,vd vq k,vd vq 0,vd vq s,vd vq rows.length,vd vq 0,vd vq 0,vd vq 0,vd vq 0];have Gb:=Fb.alloc Fb.size (.cells #[vd vn p,vd vq b,vd vq q,vd vq k,vd vq 0,vd vq s,vd vq rows.length,vd vq 0,vd vq 0,vd vq 0,vd vq 0] 35);have hg:=k4.lt;clear p0 p1 p2 k2 k3 k4 Fb c2;revert k2l k3l k4l k6 Gb
  generalize w1.alloc _=wl;generalize w1.1.size=g at *;intro k2 k3 k4 k6 Gb;have p0:wl.cell? ⟨w.1.size,0,vD⟩=vE (vd vn p):=k2.cell 0;have p1:wl.cell? ⟨w.1.size+1,1,vD⟩=vE (vd vq _):=k3.cell 1;have c6:=k6.cell;have f6:=k6.frozen;have n1:w.1.size+1≠g:=by omega
  have l1:=k3.lt;refine Cd (NK g 4) [5,8] [0,1,2,3,4,5,6,7,8] (by kernel_rfl) (by kernel_rfl) ?_
  refine Cw (Zq g 4) ?_;intro Wc ea
  repeat ((first | refine bG (Zq g 4) rfl rfl (fun _ _ _ h=>h) ?_ | (refine aG (v:=?_) (Zq g 4) rfl rfl (fun _ _ _ h=>h) ?_ ?_;rotate_left;(· (intro w' hR;(first | have Bn:=S0 ((Zq g 4).trans _ _ _ ea hR) | skip);have xa:=T0 ((Zq g 4).trans _ _ _ ea hR) k6;go_simp;try with_reducible rfl))));refine zPU ?_)
  refine Gc (Zq g 4) rfl rfl rfl (fun _=>by go_simp <;> rfl) ((HF.out _).mono ?_)
  rintro e w2 ⟨N,HN,Rk,rfl,rfl⟩;refine ⟨_,rfl,(Zq g 4).refl _,?_⟩;replace ea:=(Zq g 4).trans _ _ _ ea ((Zq g 4).refl _);refine zPU ?_;have Lx:N <= 1281:=by omega
  obtain ⟨NN,Yh⟩:=zEX (f N);rw [HFN.out] at Yh;have eN2:=Ce NN;have eN1:=HBN.out N;rw [HFN.out,<- Yh] at eN1
  try simp only [bn] at eN1
  clear HBN;clear HFN;rw [HKK.out] at HN;replace HG:=zH (HG.out _ _ HN Yh);replace HN:=zH HN;replace Yh:=zH Yh
  repeat ((first | refine bG (Zq g 4) rfl rfl (fun _ _ _ h=>h) ?_ | (refine aG (v:=?_) (Zq g 4) rfl rfl (fun _ _ _ h=>h) ?_ ?_;rotate_left;(· (intro w' hR;(first | have Bn:=S0 ((Zq g 4).trans _ _ _ ea hR) | skip);have xa:=T0 ((Zq g 4).trans _ _ _ ea hR) k6;go_simp;try with_reducible rfl))));refine zPU ?_)
  have hNN2:NN <= 10248:=by omega
  obtain ⟨v,kv⟩:=ea.2 _ _ k6.drew;have cv:=kv.cell;have fv:=kv.frozen;refine Ye (Zq g 4) rfl rfl rfl ?_;go_simp;refine ⟨U0 _ _,?_⟩;replace ea:=(Zq g 4).trans _ _ _ ea (U0 w2 (vd vq NN));replace kv:=kv.set_ 4 (vd vq NN);simp at kv
  refine Qc ?_;have n2:w.1.size+1+1≠g:=by omega
  have Yx:w.1.size <= g:=by omega
  have n0:w.1.size≠g:=by omega
  have Il:=ea.1;have Up:=k2.drew.grown Il (by simp;omega)
  have k4':=k4.drew.grown Il (by simp;omega)
  have Io:=Gb.drew.trans (qz Il w.1.size (by simp;exact Gb.size) (fun x hx=>by injection hx;omega))
  clear k2 k3 k4 Gb Il ea p0 p1 c6 f6 cv fv k6 l1 eN2 ek ZG ek3 es hand ep i1 i2 d1 d2 d4 d5 j1 hg n0 n1
  try clear eN1
  revert kv Up k4' Io
  generalize w2.setCell _ _=wl;intro kv k2 k4 Gb;have p0:wl.cell? ⟨w.1.size,0,vD⟩=vE (vd vn p):=k2.cell 0;have c6:=kv.cell;have f6:=kv.frozen;have c4:=k4.cell;have f4:=k4.frozen;have Ji:0<NN:=by
   obtain ⟨⟨z,hz⟩,-⟩:=HN.out;have:0<2^z:=Nat.pow_pos (by omega)
   have:=Yh.out;omega
  have ep:vn.wrap ((p:Int)-1)=(pm:Int):=by rw [HP.out.1];exact Hy p 1 (by have:=HP.out.2;omega) (Nb HT.out.1).2
  have eN:vn.wrap (NN:Int)=NN:=Ek _ (by omega)
  have q1:(0:Int)<b:=by have:=HB.out;omega
  have q2:¬((b:Int)=0):=by omega
  have q3:¬(b=0):=by omega
  have q4:(0:Int)<NN:=by omega
  have q5:¬((NN:Int)=0):=by omega
  have q6:¬(NN=0):=by omega
  have r1:(pm:Int)%(b:Int)=((pm%b:Nat):Int):=rfl;have r2:(pm:Int)%(NN:Int)=((pm%NN:Nat):Int):=rfl;have r3:(pm:Int).tmod (b:Int)=((pm%b:Nat):Int):=rfl;have r4:(pm:Int).tmod (NN:Int)=((pm%NN:Nat):Int):=rfl;have Ow:Hid (∀ {er:Int},(if pm%b≠0 \/ pm%NN≠0 \/ pm <= NN then (7:Int) else if 1024<NN then 3 else 0)=er -> er=aw X):=fun h=>h.symm.trans (HG.out.2).symm
  obtain ⟨x1,Yc⟩:=zEX (pm%b);obtain ⟨x2,fh⟩:=zEX (pm%NN);rw [<- Yc] at r1 r3;rw [<- fh] at r2 r4;have cB:=zH Yc.symm;have jm:=zH fh.symm;clear Yc fh;by_cases z1:x1=0
  ·subst z1
   by_cases z2:x2=0
   ·subst z2
    by_cases z3:pm <= NN
    ·have y1:decide ((pm:Int)<=NN)=true:=yb (by omega)
     have y2:decide (pm <= NN)=true:=yb z3;go_wp2_with fail
     obtain ⟨wf,dc,kW,hW⟩:=Ct k4 Gb;rw [dc];clear dc c4 f4 c6 f6 p0 k4 kv;have c4:=kW.cell;exact ed (v:=.tuple #[vf Qf,vd vq 7]) (by simp [results,results73,go_sem,c4,Qf]) rfl ⟨⟨_,_,rfl, .inl ⟨by decide,rfl,Ow.out (by rw [Qa (.inr (.inr z3))])⟩⟩,hW⟩
    ·have y1:decide ((pm:Int)<=NN)=false:=xb (by omega)
     have y2:decide (pm <= NN)=false:=xb z3;by_cases z4:1024<NN
     ·have y3:decide ((1024:Int)<NN)=true:=yb (by omega)
      have y4:decide (1024<NN)=true:=yb z4;go_wp2_with fail
      obtain ⟨wf,dc,kW,hW⟩:=Ct k4 Gb;rw [dc];clear dc c4 f4 c6 f6 p0 k4 kv;have c4:=kW.cell;exact ed (v:=.tuple #[vf Qf,vd vq 3]) (by simp [results,results73,go_sem,c4,Qf]) rfl ⟨⟨_,_,rfl, .inl ⟨by decide,rfl,Ow.out (by rw [La (by rw [cB.out,jm.out];omega),Qa z4])⟩⟩,hW⟩
     ·have y3:decide ((1024:Int)<NN)=false:=xb (by omega)
      have y4:decide (1024<NN)=false:=xb z4;have HU:=zH (fun w=>a8 rows.length b w (by have:=HT.out;omega) (by omega) (by omega))
      have Ym:=zH (fun w=>a8 s b w (by have:=HT.out;have:=HS.out;omega) (by omega) (by omega))
      have u1:(rows.length+b-1) / b <= 100000:=jb (jz _ _) (by omega)
      have u2:(s+b-1) / b <= 100000:=jb (jz _ _) (by have:=HT.out;have:=HS.out;omega)
      revert HU Ym u1 u2
      obtain ⟨ub,ZH⟩:=zEX ((rows.length+b-1) / b);obtain ⟨ua,YH⟩:=zEX ((s+b-1) / b);rw [<- ZH,<- YH];have HUB:=zH ZH;have HUA:=zH YH;clear ZH YH;intro HU Ym u1 u2;go_wp2_with fail
      refine (HU.out _).mono ?_;rintro e w5 ⟨rfl,rfl⟩;go_wp2_with fail
      refine (Ym.out _).mono ?_;rintro e w6 ⟨rfl,rfl⟩;go_wp2_with fail
      have k5:=(((k4.far (p:=⟨g,7,vD⟩) n2 (vd vq ua)).far (p:=⟨g,8,vD⟩) n2 (vd vq ub)).far (p:=⟨g,9,vD⟩) n2 (vd vq ub)).far (p:=⟨g,10,vD⟩) n2 (vd vq ub);have Wa:=(((Gb.setCell (p:=⟨g,7,vD⟩) Yx (vd vq ua)).setCell (p:=⟨g,8,vD⟩) Yx (vd vq ub)).setCell (p:=⟨g,9,vD⟩) Yx (vd vq ub)).setCell (p:=⟨g,10,vD⟩) Yx (vd vq ub);obtain ⟨wf,dc,kW,hW⟩:=gD k5 Wa p b q k NN s rows.length ua ub ub ub;rw [dc];clear dc c4 f4 c6 f6 p0 k4 kv k5 Wa;have c4:=kW.cell;have HL:Rb ⟨p,b,q,k,NN,s,rows.length,ua,ub⟩:=by
       have hB:=HB.out;have hQ:=HQ.out;have hT:=HT.out;obtain ⟨⟨z,hz⟩,Bf,-⟩:=HN.out;refine ⟨hT.1,hB.1,hB.2,hQ.1,hQ.2,HK.out,⟨z+t,?_⟩,by show NN <= 1024;omega,by have:=HS.out;show s <= 65536;omega,hT.2.2.2,u2,u1,Sg.out,?_,?_,?_,?_,HUA.out,HUB.out⟩
       ·show NN=2^(z+t)
        rw [Yh.out,hz,Nat.pow_add,<- HBT.out,Fe]
       ·show (p-1)%b=0
        rw [<- HP.out.1];exact cB.out
       ·show (p-1)%NN=0
        rw [<- HP.out.1];exact jm.out
       ·show NN<p-1
        rw [<- HP.out.1];omega
       ·show 2*k <= NN
        have:=Yh.out;have:=HK.out;omega
      have Qy:ak ⟨p,b,q,k,NN,s,rows.length,ua,ub⟩ X:=by
       have e1:((V:Int)-1-(U:Int)).toNat=s:=by have:=HS.out;omega
       have e5:=HG.out.1.symm;have e6:=Ow.out (by rw [La (by rw [cB.out,jm.out];omega),La z4])
       rw [HX.out] at e5 e6 |-;refine ⟨rfl,?_,e6.symm,by show (0:Int) <= U;omega,by have:=HT.out;show (U:Int)<V;omega⟩
       unfold RO;simp only [Lk,e1];rw [e5,HK.out,HUA.out,HUB.out]
      exact ed (v:=.tuple #[vf (Db ⟨p,b,q,k,NN,s,rows.length,ua,ub⟩),vd vq 0]) (by simp [results,results73,go_sem,c4,Db]) rfl ⟨⟨_,_,rfl, .inr ⟨rfl,_,HL,Qy,rfl⟩⟩,hW⟩
   ·have y1:((x2:Int) != 0)=true:=by rw [Df];omega
    have y2:(x2 != 0)=true:=by rw [Df];exact z2
    go_wp2_with fail
    obtain ⟨wf,dc,kW,hW⟩:=Ct k4 Gb;rw [dc];clear dc c4 f4 c6 f6 p0 k4 kv;have c4:=kW.cell;exact ed (v:=.tuple #[vf Qf,vd vq 7]) (by simp [results,results73,go_sem,c4,Qf]) rfl ⟨⟨_,_,rfl, .inl ⟨by decide,rfl,Ow.out (by rw [Qa (.inr (.inl (by rw [jm.out];exact z2)))])⟩⟩,hW⟩
  ·have y1:((x1:Int) != 0)=true:=by rw [Df];omega
   have y2:(x1 != 0)=true:=by rw [Df];exact z1
   go_wp2_with fail
   obtain ⟨wf,dc,kW,hW⟩:=Ct k4 Gb;rw [dc];clear dc c4 f4 c6 f6 p0 k4 kv;have c4:=kW.cell;exact ed (v:=.tuple #[vf Qf,vd vq 7]) (by simp [results,results73,go_sem,c4,Qf]) rfl ⟨⟨_,_,rfl, .inl ⟨by decide,rfl,Ow.out (by rw [Qa (.inl (by rw [cB.out];exact z1))])⟩⟩,hW⟩
theorem zFA {l1 l2:List Nat} {k:Nat} (h:l1.take k=l2.take k) (h1:k<l1.length) (h2:k<l2.length) (e:l1.getD k 0=l2.getD k 0):l1.take (k+1)=l2.take (k+1):=by
 rw [JJ l1 k h1,JJ l2 k h2,h,e]
theorem zFz {l1 l2:List Nat} {k:Nat} (e:l1.getD k 0≠l2.getD k 0):decide (l1=l2)=false:=xb fun h=>e (by rw [h])
def mg (w:vw) (cs:List vx) (l:List (List Nat)):Prop:=RSl 1 RWd w cs l
theorem zCl:dB mg:=Dg dI
theorem zKR {w w1:vw} {v:List vx} {l:List (List Nat)} (h:vA w.1.size w w1) (r:mg w v l):mg w1 v l:=zCl _ _ _ _ h r
theorem zj {w:vw} {A:Option vy} {n c:Nat} {l:List (List Nat)} (h:mg w [ve A n c] l):l.length=n /\ n <= c /\ c <= maxLen /\ RdL w 1 RWd A l:=by
 obtain ⟨A',n',c',he,h1,h2,h3,h4⟩:=h;simp at he
 obtain ⟨rfl,rfl,rfl⟩:=he;exact ⟨h1,h2,h3,h4⟩
theorem zFT {w:vw} {A:Option vy} {l:List (List Nat)} (h:RdL w 1 RWd A l) (hl:0<l.length):∃ b q,A=vE ⟨b,q,vD⟩:=by
 obtain ⟨a,cs,e,h1,hc,-⟩:=h 0 hl;have h0:=hc 0 (by omega)
 rw [oc (by omega)] at h0
 have hs:=World.cell?_spot h0;obtain ⟨b,q,s⟩:=a;cases s with
 | none=>exact ⟨b,q,e⟩
 | some x=>simp [Addr.add] at hs
theorem Lu {w:vw} {A:Option vy} {l:List (List Nat)} (h:RdL w 1 RWd A l) {i:Nat} (hi:i<l.length) :
  ∃ b q A1 n1 c1,A=vE ⟨b,q,vD⟩ /\ b<w.1.size /\ w.cell? ⟨b,q+i,vD⟩=vE (ve A1 n1 c1) /\ RWd w [ve A1 n1 c1] l[i]:=by
 obtain ⟨a,cs,e,hl,hc,hr⟩:=h i hi;have xk:=hr;obtain ⟨A1,n1,c1,rfl,-⟩:=xk;obtain ⟨b,q,ha⟩:=zFT h (by omega)
 rw [e] at ha;obtain rfl:=db ha;have h0:=hc 0 (by omega)
 have e0:(⟨b,q,vD⟩:vy).add (i*1+0)=⟨b,q+i,vD⟩:=by rw [pn];simp
 rw [e0] at h0;exact ⟨b,q,A1,n1,c1,e,mf _ _ h0,h0,hr⟩
def Gi (N:Nat) (gb:Option Nat) (w:vw) (v:vx) (l:List Nat):Prop:=∀ u:vw,(∀ b,N <= b -> b<w.1.size -> vE b≠gb -> u.1[b]?=w.1[b]?) -> RWd u [v] l
def jl (N:Nat) (w:vw) (v:vx) (cs:List vx) (l:List (List Nat)):Prop:=cs.length=l.length /\ ∀ (i:Nat) (h1:i<cs.length) (h2:i<l.length),Gi N v.ownBlock w cs[i] l[i]
theorem kS (N:Nat) (w:vw) (v:vx):jl N w v [] []:=⟨rfl,fun i h=>by simp at h⟩
theorem uA {N:Nat} {gb:Option Nat} {w w':vw} {v:vx} {l:List Nat} (h:Gi N gb w v l) (hs:w.1.size <= w'.1.size) (hw:∀ b,N <= b -> b<w.1.size -> vE b≠gb -> w'.1[b]?=w.1[b]?):Gi N gb w' v l :=
 fun u hu=>h u fun b h1 h2 h3=>(hu b h1 (by omega) h3).trans (hw b h1 h2 h3)
theorem gY {N:Nat} {w w':vw} {v:vx} {cs:List vx} {l:List (List Nat)} (h:jl N w v cs l) (hs:w.1.size <= w'.1.size) (hw:∀ b,N <= b -> b<w.1.size -> vE b≠v.ownBlock -> w'.1[b]?=w.1[b]?):jl N w' v cs l :=
 ⟨h.1,fun i h1 h2=>uA (h.2 i h1 h2) hs hw⟩
theorem Nj {N:Nat} {w w':vw} {v:vx} {cs:List vx} {l:List (List Nat)} (h:jl N w v cs l) (hb:vA w.1.size w w'):jl N w' v cs l :=
 gY h hb.size fun b _ h2 _=>hb.block b h2
theorem qJ {N g:Nat} {w w':vw} {v:vx} {cs:List vx} {l:List (List Nat)} (h:jl N w v cs l) (hg:w.grownBy w' (vE g)) (hN:g<N):jl N w' v cs l :=
 gY h hg.size fun b h1 h2 _=>hg.block b h2 fun e=>by have:=db e;omega
theorem LP {N base n:Nat} {w:vw} {gb:Option Nat} {e:vz} {x:vx} {l:List Nat} (h:w.ownsRow base e 1 x n (Ia l)) (hl:∀ y∈l,y<18446744073709551616) (hN:N <= base) (hg:∀ q,gb=vE q -> q<base):Gi N gb w x l:=by
 intro u hu;have ho:=own_agree' h fun b h1 h2=>hu b (by omega) h2 fun e=>by have:=hg b e.symm;omega
 obtain ⟨A,c,rfl,-⟩:=ud ho;exact Om ho hl
where
 own_agree' {w u:vw} {base:Nat} {e:vz} {size:Nat} {v:vx} {n:Nat} {xs:List vx} (h:w.ownsRow base e size v n xs) (ha:∀ b,base <= b -> b<w.1.size -> u.1[b]?=w.1[b]?):u.ownsRow base e size v n xs:=by
  obtain ⟨h1,h2⟩:=h;refine ⟨h1,?_⟩;rcases h2 with h2 | ⟨g,cap,cur,hv,Il,hh,r⟩
  ·exact Or.inl h2
  ·exact Or.inr ⟨g,cap,cur,hv,Il,by rw [ha g Il (Pu.1 hh).1];exact hh,r⟩
theorem iS {N:Nat} {w w':vw} {v v' x:vx} {cs:List vx} {l:List (List Nat)} {y:List Nat} (h:jl N w v cs l) (hx:Gi N v.ownBlock w x y) (hg:w.grownBy w' v.ownBlock) (hv:v'.ownBlock=v.ownBlock \/ v'.ownBlock=vE w.1.size):jl N w' v' (cs++[x]) (l++[y]):=by
 have key:∀ {z:vx} {m:List Nat},Gi N v.ownBlock w z m -> Gi N v'.ownBlock w' z m:=fun {z m} hz u hu=>by
  refine hz u fun b h1 h2 h3=>?_
  refine (hu b h1 (by have:=hg.size;omega) ?_).trans (hg.block b h2 (fun e=>h3 e))
  rcases hv with e | e
  ·rw [e];exact h3
  ·rw [e];intro e2;have:=db e2;omega
 refine ⟨by simp [h.1],fun i h1 h2=>?_⟩
 by_cases hi:i<cs.length
 ·rw [Tu hi,Tu (by have:=h.1;omega)]
  exact key (h.2 i hi _)
 ·have e1:i=cs.length:=by simp at h1;omega
  have e2:(cs++[x])[i]=x:=by subst e1;simp
  have e3:(l++[y])[i]=y:=by
   have:i=l.length:=by rw [e1,h.1]
   subst this;simp
  rw [e2,e3];exact key hx
theorem jS {N base n:Nat} {w:vw} {e:vz} {v:vx} {cs:List vx} {l:List (List Nat)} (h:jl N w v cs l) (ho:w.ownsRow base e 1 v n cs):mg w [v] l:=by
 obtain ⟨A,c,rfl,h1,h2,hr,-⟩:=ud ho;have hn:cs.length=n:=by have:=ho.1;omega
 refine ⟨A,n,c,rfl,by rw [<- h.1,hn],h1,h2,fun i hi=>?_⟩
 have Hf:i<cs.length:=by rw [h.1];exact hi
 obtain ⟨b,q,hA,hb,hc⟩:=Cy hr (by omega)
 refine ⟨_,[cs[i]],hA,rfl,fun j hj=>?_,h.2 i Hf hi w fun _ _ _ _=>rfl⟩
 obtain rfl:j=0:=by omega
 rw [pn,show q+(i*1+0)=q+i by omega,hc i (by omega),oc Hf]
 rfl
end Go.Proofs.YteoghgbnielkpaaGreat
