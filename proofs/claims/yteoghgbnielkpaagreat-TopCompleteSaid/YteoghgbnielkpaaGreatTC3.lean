/- A part of the proof. No condition. -/
import Derived.Test.YteoghgbnielkpaaGreatTC2
import Derived.Shelf.Spec.BitsCarry
import Derived.Laws.OwnMore
import Derived.StillTailTactics

set_option maxRecDepth 100000
set_option maxHeartbeats 8000000
set_option linter.unusedVariables false
set_option linter.unusedSimpArgs false
namespace Go.Proofs.YteoghgbnielkpaaGreat
open Go.RowKit
open Tryz
open Go renaming World->vw, Value->vx, Addr->vy, TypeId->vz, Calls->vB
open Go.Value renaming int->vd, slice->ve, agg->vf
open Go.IntKind renaming u64->vn, i64->vq, u8->vu
open Go.Ending renaming returned->vl
open Go.RowKit renaming Below->vA
open Go.World renaming setCell->vF
open Go.Act renaming put->vG
open Option renaming none->vD, some->vE
theorem Pb {p:Nat} (h:Fb p=true):17 <= p /\ p<18446744073709551616:=by
 rcases Dt h with rfl | rfl | rfl | rfl | rfl | rfl | rfl <;> omega
theorem zGy (p a b:Nat) (w:vw) (hp:Fb p=true) :
  vB prog 71 #[vd vn p,vd vn a,vd vn b] w fun e w'=>e=vl (vd vn ((a+b)%p:Nat)) /\ vA w.1.size w w':=by
 obtain ⟨h1,h2⟩:=Pb hp;have HO:=zH hp;have p1:(0:Int)<p:=by omega
 have p2:¬((p:Int)=0):=by omega
 have ha:a%p<p:=ic _ (by omega)
 have hb:b%p<p:=ic _ (by omega)
 have HE:=zH (Nat.add_mod a b p);have e1:(a:Int)%(p:Int)=((a%p:Nat):Int):=rfl;have e2:(b:Int)%(p:Int)=((b%p:Nat):Int):=rfl;rw [HE.out];clear HE;revert e1 e2 ha hb
 generalize a%p=x;generalize b%p=y;intro ha hb e1 e2;have e3:vn.wrap ((p:Int)-y)=((p-y:Nat):Int):=Py p y (by omega) h2
 have hz:p-y <= p:=by omega
 have Qe:p-y=p-y:=rfl;obtain ⟨z,hzz⟩:=zEX (p-y);rw [<- hzz] at e3;have HX:=zH (show z <= x /\ x+y<36893488147419103232 -> True from fun _=>trivial)
 by_cases hc:z <= x
 ·have e4:vn.wrap ((x:Int)-z)=((x-z:Nat):Int):=Py x z hc (by omega)
  obtain ⟨r,hr⟩:=zEX (x-z);rw [<- hr] at e4;have HR:=zH (show (x+y)%p=r by rw [hr,hzz,Nat.mod_eq_sub_mod (by omega),Kj (by omega)];omega)
  have d1:decide ((z:Int)<=x)=true:=tb (by omega)
  clear hr hzz hz Qe h1 h2 ha hb hp;rw [HR.out];go_enter func71,ntmps71
  go_wp2_with (go_at_call 152;refine (lD p _ (Pb HO.out).2).mono ?_;rintro e w1 ⟨rfl,Ia⟩;rw [HO.out])
  go_quiet (fail)
  go_wp2;go_ret
  exact ⟨rfl,zL Ia _⟩
 ·have e4:vn.wrap ((x:Int)+y)=((x+y:Nat):Int):=lR x y (by omega)
  obtain ⟨r,hr⟩:=zEX (x+y);rw [<- hr] at e4;have HR:=zH (show (x+y)%p=r by rw [hr,Kj (by omega)])
  have d1:decide ((z:Int)<=x)=false:=db (by omega)
  clear hr hzz hz Qe h1 h2 ha hb hp;rw [HR.out];go_enter func71,ntmps71
  go_wp2_with (go_at_call 152;refine (lD p _ (Pb HO.out).2).mono ?_;rintro e w1 ⟨rfl,Ia⟩;rw [HO.out])
  go_quiet (fail)
  go_wp2;go_ret
  exact ⟨rfl,zL Ia _⟩
theorem l8 (p a b:Nat) (w:vw) (hp:Fb p=true) :
  vB prog 181 #[vd vn p,vd vn a,vd vn b] w fun e w'=>e=vl (vd vn (a*b%p:Nat)) /\ vA w.1.size w w':=by
 obtain ⟨h1,h2⟩:=Pb hp;have HO:=zH hp;have p1:(0:Int)<p:=by omega
 have p2:¬((p:Int)=0):=by omega
 have p3:¬(p=0):=by omega
 have ha:a%p<p:=ic _ (by omega)
 have hb:b%p<p:=ic _ (by omega)
 have e1:(a:Int)%(p:Int)=((a%p:Nat):Int):=rfl;have e2:(b:Int)%(p:Int)=((b%p:Nat):Int):=rfl;have e3:(a:Int).tmod (p:Int)=((a%p:Nat):Int):=rfl;have e4:(b:Int).tmod (p:Int)=((b%p:Nat):Int):=rfl;rw [Nat.mul_mod a b p];revert e1 e2 e3 e4 ha hb
 generalize a%p=x;generalize b%p=y;intro ha hb e1 e2 e3 e4;have HX:=zH (show x<18446744073709551616 /\ y<18446744073709551616 by omega)
 have Lv:x*y / 18446744073709551616<p:=by
  have:x*y <= p*18446744073709551615:=Nat.mul_le_mul (by omega) (by omega)
  rw [Nat.div_lt_iff_lt_mul (by omega)]
  omega
 have Pv:x*y%18446744073709551616<18446744073709551616:=ic _ (by omega)
 have Qq:=bu (x*y) 18446744073709551616;rw [ze 18446744073709551616] at Qq;have HM:=zH (fun w=>K5 x y w HX.out.1 HX.out.2)
 revert Lv Pv Qq HM
 generalize x*y / 18446744073709551616=hi;generalize x*y%18446744073709551616=lo;intro Lv Pv Qq HM;have HD:=zH (fun w=>LY hi lo p w Lv Pv h2)
 rw [Qq] at HD;clear h1 h2 ha hb Lv Pv Qq hp;revert HD
 generalize x*y / p=q;generalize x*y%p=r;intro HD;go_enter func181,ntmps181
 go_wp2_with (go_at_call 152;refine (lD p _ (Pb HO.out).2).mono ?_;rintro e w1 ⟨rfl,Ia⟩;rw [HO.out])
 refine zd (Ub) [6] [0,1,2,3,4,5,6,7,8,9,10,11] (by kernel_rfl) (by kernel_rfl) ?_
 refine Kw (ra) ?_;intro Wc ia;refine Qb ?_;refine Bc (ra) rfl rfl rfl (fun _=>by go_simp <;> rfl) ((HM.out _).mono ?_)
 rintro e w2 ⟨rfl,rfl⟩;refine ⟨_,rfl,ra.refl _,?_⟩;replace ia:=(ra).trans _ _ _ ia (ra.refl _);refine zPU ?_;refine Qb ?_;refine Jc ?_;go_wp2_with (go_at_call 260;refine (HD.out _).mono ?_;rintro e w3 ⟨rfl,k,rfl⟩)
 go_ret
 exact ⟨rfl,zL (pa Ia.drew ia) _⟩
def ren25:Go.Shelf.Ren:=⟨fun | 25=>302 | n=>n,fun | 22=>22 | n=>n,fun n=>n⟩
theorem lays25:Go.Proofs.Lays7.n25 prog ren25:={ mixed:=by kernel_rfl,f25:=by kernel_rfl,t22:=by kernel_rfl,a22:=fun _=>by kernel_rfl,z22:=fun _=>by kernel_rfl,v22:=fun _=>by kernel_rfl,i22:=by kernel_rfl }
theorem zG8 (x y:Nat) (w:vw):(callFunc 302 #[vd vn x,vd vn y,vd vn 0]).run prog w =
  .ok (.value (.tuple #[vd vn (((x+y)%18446744073709551616:Nat):Int),vd vn (((x+y) / 18446744073709551616:Nat):Int)])) w :=
 Any7.bits_Add64 lays25 x y 0 (by omega) w
def fv (p:Nat):vx:=vf #[vd vn p]
theorem Qo (p:Nat) (w:vw) (hp:Fb p=true) :
  vB prog 214 #[fv p] w fun e w'=>e=vl (.bool true) /\ vA w.1.size w w':=by
 unfold fv;rcases Dt hp with rfl | rfl | rfl | rfl | rfl | rfl | rfl <;>
 ·go_enter func214,ntmps214
  go_wp2_with fail
  go_ret
  exact ⟨rfl,(Ca _ _).alloc zR _⟩
theorem lZ (p:Nat) (w:vw) (hp:Fb p=true) :
  vB prog 223 #[fv p] w fun e w'=>e=vl (.tuple #[vd vn ((Kb p).1:Int),vd vq ((Kb p).2.1:Int),vd vn ((Kb p).2.2:Int)]) /\ vA w.1.size w w':=by
 unfold fv;rcases Dt hp with rfl | rfl | rfl | rfl | rfl | rfl | rfl <;>
 ·go_enter func223,ntmps223
  go_wp2_with fail
  go_ret3
  exact ⟨rfl,(Ca _ _).alloc zR _⟩
theorem bT (p:Nat) (w:vw) (hp:Fb p=true) :
  vB prog 131 #[fv p] w fun e w'=>e=vl (vd vn ((Kb p).1:Int)) /\ vA w.1.size w w':=by
 have H:=zH (fun w=>lZ p w hp)
 clear hp;unfold fv at *;generalize Kb p=r at *;obtain ⟨a,b,c⟩:=r;go_enter func131,ntmps131
 go_wp2_with (go_at_call 223;refine (H.out _).mono ?_;rintro e w1 ⟨rfl,hb⟩)
 go_ret
 exact ⟨rfl,pa ((Ca _ _).alloc zR _) hb⟩
theorem zCN (p:Nat) (w:vw) (hp:Fb p=true) :
  vB prog 313 #[fv p] w fun e w'=>e=vl (vd vn ((Kb p).2.2:Int)) /\ vA w.1.size w w':=by
 have H:=zH (fun w=>lZ p w hp)
 clear hp;unfold fv at *;generalize Kb p=r at *;obtain ⟨a,b,c⟩:=r;go_enter func313,ntmps313
 go_wp2_with (go_at_call 223;refine (H.out _).mono ?_;rintro e w1 ⟨rfl,hb⟩)
 go_ret
 exact ⟨rfl,pa ((Ca _ _).alloc zR _) hb⟩
theorem GB (p n:Nat) (w:vw) (hp:0<p) :
  vB prog 228 #[fv p,vd vn n] w fun e w'=>e=vl (vd vn ((n%p:Nat):Int)) /\ vA w.1.size w w':=by
 unfold fv;have p1:(0:Int)<p:=by omega
 have e1:(n:Int)%(p:Int)=((n%p:Nat):Int):=rfl;have e2:(n:Int).tmod (p:Int)=((n%p:Nat):Int):=rfl;by_cases h:p <= n
 ·have g:(p:Int)<=n:=by omega
  revert e1 e2
  generalize n%p=r;intro e1 e2;go_enter func228,ntmps228
  go_wp2_with fail
  go_ret
  exact ⟨rfl,(Ca _ _).alloc zR _⟩
 ·have g:¬((p:Int)<=n):=by omega
  have HE:=zH (Kj (show n<p by omega))
  clear e1 e2;rw [HE.out];go_enter func228,ntmps228
  go_wp2_with fail
  go_ret
  exact ⟨rfl,(Ca _ _).alloc zR _⟩
theorem BO (p a b:Nat) (w:vw) (hp:Fb p=true) (ha:a<p) (hb:b<p) :
  vB prog 227 #[fv p,vd vn a,vd vn b] w fun e w'=>e=vl (vd vn ((a*b%p:Nat):Int)) /\ vA w.1.size w w':=by
 obtain ⟨h1,h2⟩:=Pb hp;unfold fv;have Lv:a*b / 18446744073709551616<p:=by
  have:a*b <= p*18446744073709551615:=Nat.mul_le_mul (by omega) (by omega)
  rw [Nat.div_lt_iff_lt_mul (by omega)]
  omega
 have Pv:a*b%18446744073709551616<18446744073709551616:=ic _ (by omega)
 have Qq:=bu (a*b) 18446744073709551616;rw [ze 18446744073709551616] at Qq;have HM:=zH (fun w=>K5 a b w (by omega) (by omega))
 revert Lv Pv Qq HM
 generalize a*b / 18446744073709551616=hi;generalize a*b%18446744073709551616=lo;intro Lv Pv Qq HM;have HD:=zH (fun w=>LY hi lo p w Lv Pv h2)
 rw [Qq] at HD;clear h1 h2 ha hb Lv Pv Qq hp;revert HD
 generalize a*b / p=q;generalize a*b%p=r;intro HD;go_enter func227,ntmps227
 go_wp2_with fail
 refine (HM.out _).mono ?_;rintro e w1 ⟨rfl,rfl⟩;go_wp2_with fail
 refine (HD.out _).mono ?_;rintro e w3 ⟨rfl,k,rfl⟩;go_wp2;go_ret
 exact ⟨rfl,zL ((Ca _ _).alloc zR _) _⟩
theorem mZ (p a b:Nat) (w:vw) (hp:Fb p=true) (ha:a<p) (hb:b<p) :
  vB prog 279 #[fv p,vd vn a,vd vn b] w fun e w'=>e=vl (vd vn (((a+b)%p:Nat):Int)) /\ vA w.1.size w w':=by
 obtain ⟨h1,h2⟩:=Pb hp;unfold fv;have Uc:=zG8 a b;obtain ⟨s,hs⟩:=zEX ((a+b)%18446744073709551616);obtain ⟨c,hc⟩:=zEX ((a+b) / 18446744073709551616);rw [<- hs,<- hc] at Uc;by_cases z:c=0
 ·have d1:((c:Int) != 0)=false:=by rw [iu];omega
  have d1':(c:Int)=0:=by omega
  by_cases aF:p <= s
  ·have d2:(p:Int)<=s:=by omega
   have e:vn.wrap ((s:Int)-p)=(((a+b)%p:Nat):Int):=by
    rw [Py s p aF (by omega)]
    congr 1
    have e1:s=a+b:=by omega
    rw [e1,Nat.mod_eq_sub_mod (by omega),Kj (by omega)]
   generalize (a+b)%p=r at *;clear hs hc hp z ha hb h1 h2 d1';go_enter func279,ntmps279
   go_wp2_with fail
   go_ret
   exact ⟨rfl,(Ca _ _).alloc zR _⟩
  ·have d2:¬((p:Int)<=s):=by omega
   have e:s=(a+b)%p:=by
    have e1:s=a+b:=by omega
    rw [e1,Kj (by omega)]
   have HE:=zH e;clear hs hc hp z ha hb h1 h2 d1' e;rw [<- HE.out];go_enter func279,ntmps279
   go_wp2_with fail
   go_ret
   exact ⟨rfl,(Ca _ _).alloc zR _⟩
 ·have d1:((c:Int) != 0)=true:=by rw [Bf];omega
  have e:vn.wrap ((s:Int)-p)=(((a+b)%p:Nat):Int):=by
   have e1:(a+b)%p=a+b-p:=by rw [Nat.mod_eq_sub_mod (by omega),Kj (by omega)]
   rw [e1,pj];omega
  generalize (a+b)%p=r at *;clear hs hc hp z ha hb h1 h2;go_enter func279,ntmps279
  go_wp2_with fail
  go_ret
  exact ⟨rfl,(Ca _ _).alloc zR _⟩
theorem BH (p n:Nat) (w:vw) (hp:Fb p=true) :
  vB prog 221 #[fv p,vd vn n] w fun e w'=>e=vl (vd vn ((n%p:Nat):Int)) /\ vA w.1.size w w':=by
 have HV:=zH (fun w=>Qo p w hp)
 have HR:=zH (fun w=>GB p n w (by have:=Pb hp;omega))
 clear hp;unfold fv at *;generalize n%p=r at *;have da:vA w.1.size w (w.alloc (.cells #[vd vn p] 224)):=(Ca _ _).alloc zR _;have kf:=Blk.new w 224 #[vd vn p];go_enter func221,ntmps221
 go_wp2_with fail
 refine (HV.out _).mono ?_;rintro e w1 ⟨rfl,Ia⟩;replace kf:=ja kf Ia;replace da:=pa da Ia;clear Ia;have cf:=kf.cell;go_wp2_with fail
 refine (HR.out _).mono ?_;rintro e w2 ⟨rfl,Ba⟩;go_wp2;go_ret
 exact ⟨rfl,pa da Ba⟩
theorem Om (p a b:Nat) (w:vw) (hp:Fb p=true) :
  vB prog 215 #[fv p,vd vn a,vd vn b] w fun e w'=>e=vl (vd vn (((a+b)%p:Nat):Int)) /\ vA w.1.size w w':=by
 have Ze:0<p:=by have:=Pb hp;omega
 have HV:=zH (fun w=>Qo p w hp)
 have HA:=zH (fun w=>GB p a w Ze)
 have HB:=zH (fun w=>GB p b w Ze)
 have HS:=zH (fun w=>mZ p (a%p) (b%p) w hp (ic _ Ze) (ic _ Ze))
 rw [<- Nat.add_mod] at HS;clear hp Ze;unfold fv at *;generalize (a+b)%p=r at *;generalize a%p=x at *;generalize b%p=y at *;have da:vA w.1.size w (w.alloc (.cells #[vd vn p] 224)):=(Ca _ _).alloc zR _;have kf:=Blk.new w 224 #[vd vn p];go_enter func215,ntmps215
 go_wp2_with fail
 refine (HV.out _).mono ?_;rintro e w1 ⟨rfl,Ia⟩;replace kf:=ja kf Ia;replace da:=pa da Ia;clear Ia;have cf:=kf.cell;have lf:=kf.lt;go_wp2_with fail
 refine Pg (Ub) (ra) [] [] [0,1,2,3,4,5,6,7,8] (by kernel_rfl) (by kernel_rfl) ?_
 refine Qg (ra) ?_;intro Wc ia;refine Je ?_;refine Dd (ra) rfl rfl rfl rfl (fun _ _ _ h=>h) (fun _=>by go_simp <;> rfl) (fun w' hR=>HA.out _) ?_
 refine zPU ?_;refine Je ?_;refine Dd (ra) rfl rfl rfl rfl (fun _ _ _ h=>h) (fun _=>by go_simp <;> rfl) (fun w' hR=>HB.out _) ?_
 refine zPU ?_;refine Je ?_;refine Dd (ra) rfl rfl rfl rfl (fun _ _ _ h=>h) (fun _=>by go_simp <;> rfl) (fun w' hR=>HS.out _) ?_
 refine zPU ?_;refine Je ?_;refine Kr rfl ?_;intro wd ke;replace ia:=(ra).trans _ _ _ ia ke;clear ke;go_wp2;go_ret
 exact ⟨rfl,pa da.drew ia⟩
theorem zF9 (p r a e n:Nat) (h:r*a^e%p=n) (he:e%2=1):(r*a%p)*(a*a%p)^(e / 2)%p=n:=by
 have h2:e=2*(e / 2)+1:=by omega
 rw [<- h,Nat.mul_mod,Nat.mod_mod,<- Nat.pow_mod,<- Nat.mul_mod]
 conv=>rhs;rw [h2,If,Nat.pow_mul,Nat.pow_two,ze _ a,<- Nat.mul_assoc]
theorem zF8 (p r a e n:Nat) (h:r*a^e%p=n) (he:e%2=0):r*(a*a%p)^(e / 2)%p=n:=by
 have h2:e=2*(e / 2):=by omega
 rw [<- h,Nat.mul_mod,<- Nat.pow_mod,<- Nat.mul_mod]
 conv=>rhs;rw [h2,Nat.pow_mul,Nat.pow_two]
theorem oT (p a e:Nat) (w:vw) (hp:Fb p=true) (ha:a<p) (he:e<18446744073709551616) :
  vB prog 281 #[fv p,vd vn a,vd vn e] w fun e' w'=>e'=vl (vd vn ((a^e%p:Nat):Int)) /\ vA w.1.size w w':=by
 have Ze:1<p:=by have:=Pb hp;omega
 have HM:=zH (fun a b w (h1:a<p) (h2:b<p)=>BO p a b w hp h1 h2)
 obtain ⟨n,hn⟩:=zEX (a^e%p);rw [<- hn];have HI:=zH (show 1*a^e%p=n by rw [Nat.one_mul,hn])
 have HP:=zH Ze;clear hn hp Ze;unfold fv at *;have da:vA w.1.size w (w.alloc (.cells #[vd vn p] 224)):=(Ca _ _).alloc zR _;have kf:=Blk.new w 224 #[vd vn p];go_enter func281,ntmps281
 go_wp2_with fail
 generalize w.alloc _=w0 at da kf |-;go_loopw [1,2,7] (fun x y z wr=>∃ a' e' r:Nat,x=vd vn a' /\ y=vd vn e' /\ z=vd vn r /\ a'<p /\ r<p /\ e'<18446744073709551616 /\ Hid (r*a'^e'%p=n) /\ vA w0.1.size w0 wr) (fun _ y _ _=>(intOf y).toNat)
 case atStart=>exact ⟨a,e,1,rfl,rfl,rfl,ha,HP.out,he,HI.out,Ca _ _⟩
 case round =>
  obtain ⟨a',e',r,rfl,rfl,rfl,So,dt,he',H,Db⟩:=hrel;have rp:=ja kf Db;have cf:=rp.cell;by_cases h0:e'=0
  ·subst h0
   have HE:=zH (show r=n by have:=H.out;rw [Nat.pow_zero,Pp,Kj dt] at this;exact this)
   go_wp2;go_ret
   exact ⟨by rw [HE.out];rfl,da.trans (Db.mono da.size)⟩
  ·have g1:(0:Int)<e':=by omega
   obtain ⟨f,hf⟩:=zEX (e' / 2);have e1:(e':Int) / 2=(f:Int):=by omega
   have eb:bits BinOp.and vn (e':Int) 1=((e'%2:Nat):Int):=by
    have:=bits_and_u64_nat e' 1 he' (by omega)
    rw [Nat.and_one_is_mod] at this;exact this
   rcases (show e'%2=1 \/ e'%2=0 by omega) with Xj | Xj
   ·rw [Xj] at eb
    have HF:=zH hf;have Gf:=zH (fun w=>HM.out r a' w dt So)
    have HX:=zF9 p r a' e' n H.out Xj;rw [<- hf] at HX;have qe:r*a'%p<p:=ic _ (by have:=HP.out;omega)
    generalize r*a'%p=s at *;have SG:=fun (Vq:f=0)=>show s*a'^f%p=n by rw [Vq,Nat.pow_zero] at HX |-;exact HX
    replace HX:=zH HX;replace SG:=zH SG;clear Xj hf;go_wp2_with fail
    refine (Gf.out _).mono ?_;rintro e w1 ⟨rfl,Ia⟩;replace rp:=rp.below Ia rp.lt;replace Db:=AL Db Ia Db.size;clear cf Ia;have cf:=rp.cell;by_cases Vq:f=0
    ·have d3:decide (0<f)=false:=db (by omega)
     have Xw:=zH Vq;clear Vq;go_wp2_with fail
     go_roundw
     case rel=>exact ⟨a',f,s,rfl,rfl,rfl,So,qe,by have:=HF.out;omega,SG.out Xw.out,Db⟩
     case measure=>have:=HF.out;simp [intOf];omega
    ·have g3:(0:Int)<f:=by omega
     have HQ:=zH (fun w=>HM.out a' a' w So So)
     have Eu:a'*a'%p<p:=ic _ (by have:=HP.out;omega)
     have HN2:=zH HX.out;generalize a'*a'%p=q at *;go_wp2_with fail
     refine (HQ.out _).mono ?_;rintro e w2 ⟨rfl,Ba⟩;replace Db:=AL Db Ba Db.size;go_wp2
     go_roundw
     case rel=>exact ⟨q,f,s,rfl,rfl,rfl,Eu,qe,by have:=HF.out;omega,HN2.out,Db⟩
     case measure=>have:=HF.out;simp [intOf];omega
   ·rw [Xj] at eb
    have HF:=zH hf;have HX:=zF8 p r a' e' n H.out Xj;rw [<- hf] at HX;have SG:=fun (Vq:f=0)=>show r*a'^f%p=n by rw [Vq,Nat.pow_zero] at HX |-;exact HX
    replace HX:=zH HX;replace SG:=zH SG;clear Xj hf;by_cases Vq:f=0
    ·have d3:decide (0<f)=false:=db (by omega)
     have Xw:=zH Vq;clear Vq;go_wp2_with fail
     go_roundw
     case rel=>exact ⟨a',f,r,rfl,rfl,rfl,So,dt,by have:=HF.out;omega,SG.out Xw.out,Db⟩
     case measure=>have:=HF.out;simp [intOf];omega
    ·have g3:(0:Int)<f:=by omega
     have HQ:=zH (fun w=>HM.out a' a' w So So)
     have Eu:a'*a'%p<p:=ic _ (by have:=HP.out;omega)
     have HN2:=zH HX.out;generalize a'*a'%p=q at *;go_wp2_with fail
     refine (HQ.out _).mono ?_;rintro e w2 ⟨rfl,Ba⟩;replace Db:=AL Db Ba Db.size;go_wp2
     go_roundw
     case rel=>exact ⟨q,f,r,rfl,rfl,rfl,Eu,dt,by have:=HF.out;omega,HN2.out,Db⟩
     case measure=>have:=HF.out;simp [intOf];omega
theorem Nq (p a b:Nat) (w:vw) (hp:Fb p=true) :
  vB prog 142 #[fv p,vd vn a,vd vn b] w fun e w'=>e=vl (vd vn ((a*b%p:Nat):Int)) /\ vA w.1.size w w':=by
 have Ze:0<p:=by have:=Pb hp;omega
 have HV:=zH (fun w=>Qo p w hp)
 have HA:=zH (fun w=>GB p a w Ze)
 have HB:=zH (fun w=>GB p b w Ze)
 have HS:=zH (fun w=>BO p (a%p) (b%p) w hp (ic _ Ze) (ic _ Ze))
 rw [<- Nat.mul_mod] at HS;clear hp Ze;generalize a*b%p=r at *;generalize a%p=x at *;generalize b%p=y at *;unfold fv at *;have da:vA w.1.size w (w.alloc (.cells #[vd vn p] 224)):=(Ca _ _).alloc zR _;have kf:=Blk.new w 224 #[vd vn p];go_enter func142,ntmps142
 go_wp2_with fail
 refine (HV.out _).mono ?_;rintro e' w1 ⟨rfl,Ia⟩;replace kf:=ja kf Ia;replace da:=pa da Ia;clear Ia;have cf:=kf.cell;have lf:=kf.lt;go_wp2_with fail
 refine Pg (Ub) (ra) [] [] [0,1,2,3,4,5,6,7,8] (by kernel_rfl) (by kernel_rfl) ?_
 refine Qg (ra) ?_;intro Wc ia;refine Je ?_;refine Dd (ra) rfl rfl rfl rfl (fun _ _ _ h=>h) (fun _=>by go_simp <;> rfl) (fun w' hR=>HA.out _) ?_
 refine zPU ?_;refine Je ?_;refine Dd (ra) rfl rfl rfl rfl (fun _ _ _ h=>h) (fun _=>by go_simp <;> rfl) (fun w' hR=>HB.out _) ?_
 refine zPU ?_;refine Je ?_;refine Dd (ra) rfl rfl rfl rfl (fun _ _ _ h=>h) (fun _=>by go_simp <;> rfl) (fun w' hR=>HS.out _) ?_
 refine zPU ?_;refine Je ?_;refine Kr rfl ?_;intro wd ke;replace ia:=(ra).trans _ _ _ ia ke;clear ke;go_wp2;go_ret
 exact ⟨rfl,pa da.drew ia⟩
theorem zCO (p a n:Nat) (w:vw) (hp:Fb p=true) (hn:n<18446744073709551616) :
  vB prog 314 #[fv p,vd vn a,vd vn n] w fun e w'=>e=vl (vd vn ((a^n%p:Nat):Int)) /\ vA w.1.size w w':=by
 have Ze:0<p:=by have:=Pb hp;omega
 have HV:=zH (fun w=>Qo p w hp)
 have HA:=zH (fun w=>GB p a w Ze)
 have HS:=zH (fun w=>oT p (a%p) n w hp (ic _ Ze) hn)
 rw [<- Nat.pow_mod] at HS;clear hp Ze hn;generalize a^n%p=r at *;generalize a%p=x at *;unfold fv at *;have da:vA w.1.size w (w.alloc (.cells #[vd vn p] 224)):=(Ca _ _).alloc zR _;have kf:=Blk.new w 224 #[vd vn p];go_enter func314,ntmps314
 go_wp2_with fail
 refine (HV.out _).mono ?_;rintro e' w1 ⟨rfl,Ia⟩;replace kf:=ja kf Ia;replace da:=pa da Ia;clear Ia;have cf:=kf.cell;have lf:=kf.lt;go_wp2_with fail
 refine Pg (Ub) (ra) [] [] [0,1,2,3,4,5,6] (by kernel_rfl) (by kernel_rfl) ?_
 refine Qg (ra) ?_;intro Wc ia;refine Je ?_;refine Dd (ra) rfl rfl rfl rfl (fun _ _ _ h=>h) (fun _=>by go_simp <;> rfl) (fun w' hR=>HA.out _) ?_
 refine zPU ?_;refine Je ?_;refine Dd (ra) rfl rfl rfl rfl (fun _ _ _ h=>h) (fun _=>by go_simp <;> rfl) (fun w' hR=>HS.out _) ?_
 refine zPU ?_;refine Je ?_;refine Kr rfl ?_;intro wd ke;replace ia:=(ra).trans _ _ _ ia ke;clear ke;go_wp2;go_ret
 exact ⟨rfl,pa da.drew ia⟩
theorem jZ (p a:Nat) (w:vw) (hp:Fb p=true) :
  vB prog 230 #[fv p,vd vn a] w fun e w'=>e=vl (vd vn ((a^(p-2)%p:Nat):Int)) /\ vA w.1.size w w':=by
 obtain ⟨jf,Wd⟩:=Pb hp;have HV:=zH (fun w=>Qo p w hp)
 have HA:=zH (fun w=>GB p a w (by omega))
 have HS:=zH (fun w=>oT p (a%p) (p-2) w hp (ic _ (by omega)) (by omega))
 have e1:vn.wrap ((p:Int)-2)=((p-2:Nat):Int):=Py p 2 (by omega) Wd
 have e2:(p:Int)-2=((p-2:Nat):Int):=by omega
 have e3:vn.wrap ((p-2:Nat):Int)=((p-2:Nat):Int):=Wk _ (by omega)
 rw [<- Nat.pow_mod] at HS;clear hp jf Wd;generalize a^(p-2)%p=r at *;generalize a%p=x at *;generalize p-2=m at *;unfold fv at *;have da:vA w.1.size w (w.alloc (.cells #[vd vn p] 224)):=(Ca _ _).alloc zR _;have kf:=Blk.new w 224 #[vd vn p];go_enter func230,ntmps230
 go_wp2_with fail
 refine (HV.out _).mono ?_;rintro e' w1 ⟨rfl,Ia⟩;replace kf:=ja kf Ia;replace da:=pa da Ia;clear Ia;have cf:=kf.cell;have lf:=kf.lt;go_wp2_with fail
 refine Pg (Ub) (ra) [] [] [0,1,2,3,4,5,6,7,8] (by kernel_rfl) (by kernel_rfl) ?_
 refine Qg (ra) ?_;intro Wc ia;refine Je ?_;refine Dd (ra) rfl rfl rfl rfl (fun _ _ _ h=>h) (fun _=>by go_simp <;> rfl) (fun w' hR=>HA.out _) ?_
 refine zPU ?_;refine Je ?_;refine Dd (ra) rfl rfl rfl rfl (fun _ _ _ h=>h) (fun _=>by go_simp <;> rfl) (fun w' hR=>HS.out _) ?_
 refine zPU ?_;refine Je ?_;refine Kr rfl ?_;intro wd ke;replace ia:=(ra).trans _ _ _ ia ke;clear ke;go_wp2;go_ret
 exact ⟨rfl,pa da.drew ia⟩
def Zf (p a:Nat):Nat:=if a%p=0 then 0 else p-a%p
theorem kZ (p a:Nat) (w:vw) (hp:Fb p=true) :
  vB prog 147 #[fv p,vd vn a] w fun e w'=>e=vl (vd vn (Zf p a:Int)) /\ vA w.1.size w w':=by
 obtain ⟨jf,Wd⟩:=Pb hp;have HA:=zH (fun w=>BH p a w hp)
 have hx:a%p<p:=ic _ (by omega)
 have HN:=zH (show Zf p a=if a%p=0 then 0 else p-a%p from rfl)
 clear hp;generalize Zf p a=r at *;generalize a%p=x at *;by_cases h0:x=0
 ·have HR:=zH (show r=0 by rw [HN.out,Na h0])
  subst h0;unfold fv at *;have da:vA w.1.size w (w.alloc (.cells #[vd vn p] 224)):=(Ca _ _).alloc zR _;have kf:=Blk.new w 224 #[vd vn p];go_enter func147,ntmps147
  go_wp2_with fail
  refine (HA.out _).mono ?_;rintro e' w1 ⟨rfl,Ia⟩;go_wp2;go_ret
  exact ⟨by rw [HR.out];rfl,pa da Ia⟩
 ·have HR:=zH (show r=p-x by rw [HN.out,ya h0])
  have d1:((x:Int) == 0)=false:=by rw [Gd];omega
  have e1:vn.wrap ((p:Int)-x)=((p-x:Nat):Int):=Py p x (by omega) Wd
  rw [HR.out];clear hx jf Wd h0 HR HN;generalize p-x=z at *;unfold fv at *;have da:vA w.1.size w (w.alloc (.cells #[vd vn p] 224)):=(Ca _ _).alloc zR _;have kf:=Blk.new w 224 #[vd vn p];go_enter func147,ntmps147
  go_wp2_with fail
  refine (HA.out _).mono ?_;rintro e' w1 ⟨rfl,Ia⟩;replace kf:=ja kf Ia;have cf:=kf.cell;go_wp2;go_ret
  exact ⟨rfl,pa da Ia⟩
theorem UL (p a b:Nat) (w:vw) (hp:Fb p=true) :
  vB prog 219 #[fv p,vd vn a,vd vn b] w fun e w'=>e=vl (vd vn (((a+Zf p b)%p:Nat):Int)) /\ vA w.1.size w w':=by
 have HN:=zH (fun w=>kZ p b w hp)
 have HS:=zH (fun w=>Om p a (Zf p b) w hp)
 clear hp;generalize (a+Zf p b)%p=r at *;generalize Zf p b=x at *;unfold fv at *;have da:vA w.1.size w (w.alloc (.cells #[vd vn p] 224)):=(Ca _ _).alloc zR _;have kf:=Blk.new w 224 #[vd vn p];go_enter func219,ntmps219
 have cf:=kf.cell;have lf:=kf.lt;go_wp2_with fail
 refine Pg (Ub) (ra) [] [] [0,1,2,3,4,5,6] (by kernel_rfl) (by kernel_rfl) ?_
 refine Qg (ra) ?_;intro Wc ia;refine Je ?_;refine Dd (ra) rfl rfl rfl rfl (fun _ _ _ h=>h) (fun _=>by go_simp <;> rfl) (fun w' hR=>HN.out _) ?_
 refine zPU ?_;refine Je ?_;refine Dd (ra) rfl rfl rfl rfl (fun _ _ _ h=>h) (fun _=>by go_simp <;> rfl) (fun w' hR=>HS.out _) ?_
 refine zPU ?_;refine Je ?_;refine Kr rfl ?_;intro wd ke;replace ia:=(ra).trans _ _ _ ia ke;clear ke;go_wp2;go_ret
 exact ⟨rfl,pa da.drew ia⟩
structure St where
 a:Nat
 b:Nat
 c:Nat
def St.val (s:St):vx:=vf #[vd vn s.a,vd vn s.b,vd vn s.c]
def St.cs (s:St):Array vx:=#[vd vn s.a,vd vn s.b,vd vn s.c]
def St.ok (s:St):Prop:=s.a<18446744073709551616 /\ s.b<18446744073709551616 /\ s.c<18446744073709551616
def wK (k:Nat):Nat:=k*11400714819323198485%18446744073709551616
def yE (p r i:Nat):Nat:=wK (3*r+i+1)%p
def zt (p:Nat) (s:St):Nat:=((s.a+s.b)%p+s.c)%p
def DM (p:Nat) (s:St):St:=⟨(s.a+zt p s)%p,(s.b+zt p s)%p,(s.c+zt p s)%p⟩
theorem zFs (p r i:Nat) (w:vw) (hp:Fb p=true) (hr:r<8) (hi:i<3) :
  vB prog 315 #[vd vn p,vd vq r,vd vq i] w fun e w'=>e=vl (vd vn (yE p r i:Int)) /\ vA w.1.size w w':=by
 have HR:=zH (fun w=>BH p (wK (3*r+i+1)) w hp)
 have HC:=zH (show yE p r i=wK (3*r+i+1)%p from rfl)
 rw [HC.out];clear HC hp;obtain ⟨k,hk⟩:=zEX (3*r+i+1);rw [<- hk] at HR |-;have g1:(r:Int)<8:=by omega
 have g2:(i:Int) <= 2:=by omega
 have e1:3*(r:Int)+i+1=(k:Int):=by omega
 have e2:vn.wrap (k:Int)=k:=Wk _ (by omega)
 have e3:vn.wrap ((k:Int)*11400714819323198485)=(wK k:Int):=by
  rw [pj];have:((k:Int)*11400714819323198485)=((k*11400714819323198485:Nat):Int):=by rw [Uf];rfl
  rw [this]
  rfl
 clear hk hr hi;generalize wK k%p=m at *;generalize wK k=z at *;unfold fv at *;go_enter func315,ntmps315
 go_wp2_with fail
 refine (HR.out _).mono ?_;rintro e w1 ⟨rfl,hb⟩;go_wp2;go_ret
 exact ⟨rfl,hb⟩
theorem zFx (p:Nat) (s:St) (w:vw) (hp:Fb p=true) :
  vB prog 316 #[vd vn p,s.val] w fun e w'=>e=vl (DM p s).val /\ vA w.1.size w w':=by
 obtain ⟨a,b,c⟩:=s;have H1:=zH (fun w=>Om p a b w hp)
 have H2:=zH (fun w=>Om p ((a+b)%p) c w hp)
 have H3:=zH (fun w=>Om p a (zt p ⟨a,b,c⟩) w hp)
 have H4:=zH (fun w=>Om p b (zt p ⟨a,b,c⟩) w hp)
 have H5:=zH (fun w=>Om p c (zt p ⟨a,b,c⟩) w hp)
 have HM:=zH (show (DM p ⟨a,b,c⟩).val=vf #[vd vn (((a+zt p ⟨a,b,c⟩)%p:Nat):Int),vd vn (((b+zt p ⟨a,b,c⟩)%p:Nat):Int),vd vn (((c+zt p ⟨a,b,c⟩)%p:Nat):Int)] from rfl)
 rw [HM.out];have HS:=zH (show ((a+b)%p+c)%p=zt p ⟨a,b,c⟩ from rfl)
 rw [HS.out] at H2;clear HM HS hp;generalize (a+zt p ⟨a,b,c⟩)%p=x at *;generalize (b+zt p ⟨a,b,c⟩)%p=y at *;generalize (c+zt p ⟨a,b,c⟩)%p=z at *;generalize zt p ⟨a,b,c⟩=m at *;generalize (a+b)%p=ab at *;unfold St.val;unfold fv at *;simp only;obtain ⟨k1,k2,k3,da,ib⟩:=Sp w 298 298 224 #[vd vn a,vd vn b,vd vn c] #[vd vn 0,vd vn 0,vd vn 0] #[vd vn p];go_enter func316,ntmps316
 go_wp2_with fail
 generalize ((w.alloc _).alloc _).alloc _=w0 at k1 k2 k3 da ib |-;have c1:=k1.cell;have c3:=k3.cell;have l1:=k1.lt;have l3:=k3.lt;refine Pg (Ub) (ra) [] [] [0,1,2,3,4,5,6,7,8,9,10] (by kernel_rfl) (by kernel_rfl) ?_
 refine Qg (ra) ?_;intro Wc ia;refine Je ?_;refine Dd (ra) rfl rfl rfl rfl (fun _ _ _ h=>h) (fun _=>by go_simp <;> rfl) (fun w' hR=>H1.out _) ?_
 refine zPU ?_;refine Je ?_;refine Dd (ra) rfl rfl rfl rfl (fun _ _ _ h=>h) (fun _=>by go_simp <;> rfl) (fun w' hR=>H2.out _) ?_
 refine zPU ?_;refine Je ?_;refine Kr rfl ?_;intro wd ke;replace ia:=(ra).trans _ _ _ ia ke;clear ke;replace k1:=k1.drew.below ia k1.lt;replace k2:=k2.drew.below ia k2.lt;replace k3:=k3.drew.below ia k3.lt;replace da:=pa da.drew ia;have hsw:w.1.size+1<wd.1.size:=k2.lt;clear c1 c3 l1 l3 ia ib H1 H2;have c1:=k1.cell;have c3:=k3.cell;have l1:=k1.lt;have l3:=k3.lt;go_wp2_with fail
 refine Pg (Ub) (ra) [16] [16] [0,1,2,3,4,5,6,7,8,9,10,11,12,13,14,15,16] (by kernel_rfl) (by kernel_rfl) ?_
 refine Qg (ra) ?_;intro Wc ia;refine Te ?_;refine Dd (ra) rfl rfl rfl rfl (fun _ _ _ h=>h) (fun _=>by go_simp <;> rfl) (fun w' hR=>H3.out _) ?_
 refine zPU ?_;refine Te ?_;refine Dd (ra) rfl rfl rfl rfl (fun _ _ _ h=>h) (fun _=>by go_simp <;> rfl) (fun w' hR=>H4.out _) ?_
 refine zPU ?_;refine Te ?_;refine Dd (ra) rfl rfl rfl rfl (fun _ _ _ h=>h) (fun _=>by go_simp <;> rfl) (fun w' hR=>H5.out _) ?_
 refine zPU ?_;refine Te ?_;refine jo rfl rfl rfl rfl ?_;intro wh Kd;replace ia:=(ra).trans _ _ _ ia Kd;replace k2:=k2.drew.below ia k2.lt;replace da:=pa da.drew ia;have c2:=k2.cell;have f2:=k2.frozen;have l2:=k2.lt;go_simp;refine ⟨fun h=>Bool.noConfusion h,?_⟩
 have hg:=cG (w:=wh) (g:=w.1.size+1) (vd vn x) (vd vn y) (vd vn z);have kz:=bG k2 (vd vn x) (vd vn y) (vd vn z);clear c2 f2 k2;generalize ((vF wh _ _).setCell _ _).setCell _ _=Wf at hg kz |-;have cz:=kz.cell;refine Ep rfl ?_;go_wp2;exact Tc (v:=vf #[vd vn x,vd vn y,vd vn z]) (by simp [results,results316,go_sem,cz]) rfl ⟨rfl,da.trans (Rp hg (by omega) (by omega))⟩
def nJ (p r i x:Nat):Nat:=((x+yE p r i)%p)^(Kb p).2.2%p
def St.at_ (s:St) (i:Nat):Nat:=if i=0 then s.a else if i=1 then s.b else s.c
def gG (f:Nat -> Nat -> Nat) (s:St):Nat -> St
 | 0=>s
 | 1=>⟨f 0 s.a,s.b,s.c⟩
 | 2=>⟨f 0 s.a,f 1 s.b,s.c⟩
 | _=>⟨f 0 s.a,f 1 s.b,f 2 s.c⟩
def roundP (p r:Nat) (s:St):St:=DM p (gG (nJ p r) s 3)
def fD (p:Nat) (s:St):Nat -> St
 | 0=>s
 | r+1=>roundP p r (fD p s r)
def eD (p:Nat) (s:St):St:=fD p s 8
theorem St.cs_at (s:St) {i:Nat} (h:i<3):s.cs[i]?=vE (vd vn (s.at_ i:Int)):=by
 rcases (show i=0 \/ i=1 \/ i=2 by omega) with rfl | rfl | rfl <;> rfl
theorem zHD (f:Nat -> Nat -> Nat) (s:St) {i:Nat} (h:i<3):(gG f s i).at_ i=s.at_ i:=by
 rcases (show i=0 \/ i=1 \/ i=2 by omega) with rfl | rfl | rfl <;> rfl
theorem zHE (f:Nat -> Nat -> Nat) (s:St) {i:Nat} (h:i<3):(gG f s i).cs.setIfInBounds i (vd vn (f i (s.at_ i):Int))=(gG f s (i+1)).cs:=by
 rcases (show i=0 \/ i=1 \/ i=2 by omega) with rfl | rfl | rfl <;> simp [gG,St.cs,St.at_]
theorem zG3 {p:Nat} (h:Fb p=true):(Kb p).1<18446744073709551616 /\ (Kb p).2.2<18446744073709551616:=by
 rcases Dt h with rfl | rfl | rfl | rfl | rfl | rfl | rfl <;> exact ⟨by decide,by decide⟩
theorem G7 (p:Nat) (s:St) (w:vw) (hp:Fb p=true) :
  vB prog 300 #[vd vn p,s.val] w fun e w'=>e=vl (eD p s).val /\ vA w.1.size w w':=by
 have HV:=zH (fun w=>Qo p w hp)
 have HE:=zH (fun w=>zCN p w hp)
 have HC:=zH (fun r i w hr hi=>zFs p r i w hp hr hi)
 have HA:=zH (fun a b w=>Om p a b w hp)
 have HP:=zH (fun a n w hn=>zCO p a n w hp hn)
 have HM:=zH (fun s w=>zFx p s w hp)
 have Jk:=(zG3 hp).2;have HSB:=zH (show ∀ r i x,nJ p r i x=((x+yE p r i)%p)^(Kb p).2.2%p from fun _ _ _=>rfl)
 clear hp;unfold fv at *;generalize (Kb p).2.2=ex at *;have HEL:=zH Jk;clear Jk;obtain ⟨k1,k2,k3,da,ib⟩:=Sp w 298 298 224 s.cs #[vd vn 0,vd vn 0,vd vn 0] #[vd vn p];have HPO:=zH (show (eD p s).val=(fD p s 8).val from rfl)
 rw [HPO.out];clear HPO;unfold St.cs at k1 k2 k3 da ib;have ev:s.val=vf #[vd vn s.a,vd vn s.b,vd vn s.c]:=rfl;rw [ev];clear ev;go_enter func300,ntmps300
 go_wp2_with fail
 generalize ((w.alloc _).alloc _).alloc _=w0 at k1 k2 k3 da ib |-;refine (HV.out _).mono ?_;rintro e w1 ⟨rfl,Ia⟩;replace k1:=ja k1 Ia;replace k2:=ja k2 Ia;replace k3:=ja k3 Ia;replace da:=pa da Ia;clear Ia ib;have c3:=k3.cell;go_wp2_with fail
 refine (HE.out _).mono ?_;rintro e w2 ⟨rfl,Ba⟩;replace k1:Blk w2 w.1.size 298 (fD p s 0).cs:=ja k1 Ba;replace k2:=ja k2 Ba;replace k3:=ja k3 Ba;replace da:=pa da Ba;clear Ba c3 HV HE;go_wp2_with fail
 go_loopw [17] (fun i wr=>∃ r:Nat,r <= 8 /\ i=vd vq r /\ Blk wr w.1.size 298 (fD p s r).cs /\ Blk wr (w.1.size+1) 298 #[vd vn 0,vd vn 0,vd vn 0] /\ Blk wr (w.1.size+1+1) 224 #[vd vn p] /\ vA w.1.size w wr) (fun i _=>8-(intOf i).toNat)
 case atStart=>exact ⟨0,Mb _,rfl,k1,k2,k3,da⟩
 case round =>
  clear k1 k2 k3 da;obtain ⟨r,hr,rfl,k1,k2,k3,da⟩:=hrel;by_cases ta:r<8
  ·have g1:(r:Int)<8:=by omega
   obtain ⟨t,ht⟩:=zEX (fD p s r);rw [<- ht] at k1;have HT:=zH (show fD p s (r+1)=DM p (gG (nJ p r) t 3) by rw [fD,<- ht];rfl)
   clear ht;go_wp2_with fail
   go_loopw [20] (fun i wr=>∃ m:Nat,m <= 3 /\ i=vd vq m /\ Blk wr w.1.size 298 (gG (nJ p r) t m).cs /\ Blk wr (w.1.size+1) 298 #[vd vn 0,vd vn 0,vd vn 0] /\ Blk wr (w.1.size+1+1) 224 #[vd vn p] /\ vA w.1.size w wr) (fun i _=>3-(intOf i).toNat)
   case atStart=>exact ⟨0,Mb _,rfl,k1,k2,k3,da⟩
   case round =>
    clear k1 k2 k3 da;obtain ⟨m,hm,rfl,k1,k2,k3,da⟩:=hrel;by_cases jm:m<3
    ·have g2:(m:Int)<3:=by omega
     have cm:=k1.cell m;rw [St.cs_at _ jm,zHD _ _ jm] at cm;have HSET:=zH (zHE (nJ p r) t jm);have HSV:=zH (HSB.out r m (t.at_ m));have zk:=zH (fun w=>HC.out r m w ta jm)
     have xk:=zH (fun w=>HA.out (t.at_ m) (yE p r m) w)
     have QD:=zH (fun w=>HP.out ((t.at_ m+yE p r m)%p) ex w HEL.out)
     rw [<- HSV.out] at QD;clear HSV;generalize nJ p r m (t.at_ m)=sv at *;generalize (t.at_ m+yE p r m)%p=av at *;generalize yE p r m=cv at *;generalize t.at_ m=xv at *;have c3:=k3.cell;have l1:=k1.lt;have l3:=k3.lt;go_wp2_with fail
     refine Pg (Ub) (ra) [14] [14] [0,1,2,3,4,5,6,7,8,9,10,11,12,13,14] (by kernel_rfl) (by kernel_rfl) ?_
     refine Qg (ra) ?_;intro Wc ia;refine Te ?_;refine Dd (ra) rfl rfl rfl rfl (fun _ _ _ h=>h) (fun _=>by go_simp <;> rfl) (fun w' hR=>zk.out _) ?_
     refine zPU ?_;refine Te ?_;refine Dd (ra) rfl rfl rfl rfl (fun _ _ _ h=>h) (fun _=>by go_simp <;> rfl) (fun w' hR=>xk.out _) ?_
     refine zPU ?_;refine Te ?_;refine Dd (ra) rfl rfl rfl rfl (fun _ _ _ h=>h) (fun _=>by go_simp <;> rfl) (fun w' hR=>QD.out _) ?_
     refine zPU ?_;refine Te ?_;refine jo rfl rfl rfl rfl ?_;intro wh Kd;replace ia:=(ra).trans _ _ _ ia Kd;replace k1:=k1.drew.below ia k1.lt;replace k2:=k2.drew.below ia k2.lt;replace k3:=k3.drew.below ia k3.lt;replace da:=pa da.drew ia;have f1:=k1.frozen m;have Az:wh.cell? ⟨w.1.size,m,vD⟩=vE (vd vn xv):=zBG ia cm;clear c3 l1 l3 cm;go_simp;refine ⟨fun h=>Bool.noConfusion h,?_⟩
     have hg:wh.grownBy (wh.setCell ⟨w.1.size,m,vD⟩ (vd vn sv)) (vE w.1.size):=Wg (p:=⟨w.1.size,m,vD⟩) (Ee wh _) (.inl rfl) _;replace k1:=k1.set_ m (vd vn sv);rw [HSET.out] at k1;replace k2:=k2.grown hg (fun e=>by have:=Za e;omega)
     replace k3:=k3.grown hg (fun e=>by have:=Za e;omega)
     replace da:=da.trans (Rp hg da.size zR);clear hg f1 Az;generalize wh.setCell _ _=Wf at k1 k2 k3 da |-;refine Ep rfl ?_;go_wp2
     go_roundw
     case rel=>exact ⟨m+1,by omega,by go_num,k1,k2,k3,da⟩
     case measure=>simp [intOf];omega
    ·obtain rfl:m=3:=by omega
     obtain ⟨q,hq⟩:=zEX (gG (nJ p r) t 3);rw [<- hq] at k1 HT;clear hq;have Zj:Blk wr w.1.size 298 #[vd vn q.a,vd vn q.b,vd vn q.c]:=k1;obtain ⟨z,hz⟩:=zEX (DM p q);rw [<- hz] at HT;have Gf:=zH (show ∀ w,vB prog 316 #[vd vn p,vf #[vd vn q.a,vd vn q.b,vd vn q.c]] w fun e w'=>e=vl (vf #[vd vn z.a,vd vn z.b,vd vn z.c]) /\ vA w.1.size w w' from fun w=>by rw [hz];exact HM.out q w)
     clear hz k1;have c1:=Zj.cell;go_wp2_with fail
     refine (Gf.out _).mono ?_;rintro e w5 ⟨rfl,Ya⟩;replace Zj:=Zj.below Ya Zj.lt;replace k2:=ja k2 Ya;replace k3:=ja k3 Ya;replace da:=pa da Ya;clear Ya c1;have c1:=Zj.cell;have f1:=Zj.frozen;go_wp2_with fail
     have hg:=cG (w:=w5) (g:=w.1.size) (vd vn z.a) (vd vn z.b) (vd vn z.c);have kz:=bG Zj (vd vn z.a) (vd vn z.b) (vd vn z.c);replace k2:=k2.grown hg (fun e=>by have:=Za e;omega)
     replace k3:=k3.grown hg (fun e=>by have:=Za e;omega)
     replace da:=da.trans (Rp hg da.size zR);clear hg c1 f1 Zj;generalize ((vF w5 _ _).setCell _ _).setCell _ _=Wf at kz k2 k3 da |-
     go_roundw
     case rel=>exact ⟨r+1,by omega,by go_num,by rw [HT.out];exact kz,k2,k3,da⟩
     case measure=>simp [intOf];omega
  ·obtain rfl:r=8:=by omega
   obtain ⟨q,hq⟩:=zEX (fD p s 8);rw [<- hq] at k1;have HQ:=zH hq;clear hq;have Zj:Blk wr w.1.size 298 #[vd vn q.a,vd vn q.b,vd vn q.c]:=k1;have c1:=Zj.cell;have c2:=k2.cell;have f2:=k2.frozen;go_wp2_with fail
   have hg:=cG (w:=wr) (g:=w.1.size+1) (vd vn q.a) (vd vn q.b) (vd vn q.c);have kz:=bG k2 (vd vn q.a) (vd vn q.b) (vd vn q.c);clear c1 c2 f2 k2;generalize ((vF wr _ _).setCell _ _).setCell _ _=Wf at hg kz |-;have cz:=kz.cell;have hs:=da.size;exact Tc (v:=vf #[vd vn q.a,vd vn q.b,vd vn q.c]) (by simp [results,results300,go_sem,cz]) rfl ⟨by rw [<- HQ.out];rfl,da.trans (Rp hg hs (by omega))⟩
theorem jw {w w':vw} {p:vy} {v:vx} (hR:Ub w w') (h:w.cell? p=vE v):w'.cell? p=vE v:=(Below.cell hR (Jf _ _ h)).trans h
def Nc (p:Nat) (pub vars:Int) (rows:List Ua):Bool :=
 Fb p&&!decide (pub<0)&&!decide (vars <= pub)&&!decide (65536<vars)&&!decide ((16384:Int)<rows.length)&&rows.all (qn p vars)
theorem WM (p:Nat) (pub vars:Int) (A:Option vy) (n c:Nat) (rows:List Ua) (w:vw) (hr:RSl 3 Ud w [ve A n c] rows) (hp:p<18446744073709551616) :
  vB prog 110 #[Tb p pub vars (ve A n c)] w fun e w'=>e=vl (.bool (Nc p pub vars rows)) /\ vA w.1.size w w':=by
 obtain ⟨A',n',c',he,hlen,Ld,Ef,Ra⟩:=hr;simp at he
 obtain ⟨rfl,rfl,rfl⟩:=he;subst hlen;unfold Tb;cases b1:Fb p
 ·have E:=zH (show Nc p pub vars rows=false by simp [Nc,b1])
  have B1:=zH b1;clear b1;go_enter func110,ntmps110
  go_wp2_with (go_at_call 152;refine (lD p _ hp).mono ?_;rintro e w1 ⟨rfl,hb⟩;rw [B1.out];have hB:=(Blk.new w _ _).below hb (by simp);have Ia:vA w.1.size w w1:=pa ((Ca _ w).alloc zR _) hb;have t1:w1.cell? ⟨w.1.size,1,vD⟩=vE (vd vq pub):=hB.cell 1;have t2:w1.cell? ⟨w.1.size,2,vD⟩=vE (vd vq vars):=hB.cell 2;have t3:w1.cell? ⟨w.1.size,3,vD⟩=vE (ve A rows.length c):=hB.cell 3;clear hb)
  go_ret
  exact ⟨by rw [E.out];rfl,Ia⟩
 have B1:=zH b1;by_cases z1:pub<0
 ·have E:=zH (show Nc p pub vars rows=false by unfold Nc;rw [tb z1];simp)
  have d1:=tb z1;clear b1;go_enter func110,ntmps110
  go_wp2_with (go_at_call 152;refine (lD p _ hp).mono ?_;rintro e w1 ⟨rfl,hb⟩;rw [B1.out];have hB:=(Blk.new w _ _).below hb (by simp);have Ia:vA w.1.size w w1:=pa ((Ca _ w).alloc zR _) hb;have t1:w1.cell? ⟨w.1.size,1,vD⟩=vE (vd vq pub):=hB.cell 1;have t2:w1.cell? ⟨w.1.size,2,vD⟩=vE (vd vq vars):=hB.cell 2;have t3:w1.cell? ⟨w.1.size,3,vD⟩=vE (ve A rows.length c):=hB.cell 3;clear hb)
  go_ret
  exact ⟨by rw [E.out];rfl,Ia⟩
 have d1:=db z1;by_cases z2:vars <= pub
 ·have E:=zH (show Nc p pub vars rows=false by unfold Nc;rw [tb z2];simp)
  have d2:=tb z2;clear b1;go_enter func110,ntmps110
  go_wp2_with (go_at_call 152;refine (lD p _ hp).mono ?_;rintro e w1 ⟨rfl,hb⟩;rw [B1.out];have hB:=(Blk.new w _ _).below hb (by simp);have Ia:vA w.1.size w w1:=pa ((Ca _ w).alloc zR _) hb;have t1:w1.cell? ⟨w.1.size,1,vD⟩=vE (vd vq pub):=hB.cell 1;have t2:w1.cell? ⟨w.1.size,2,vD⟩=vE (vd vq vars):=hB.cell 2;have t3:w1.cell? ⟨w.1.size,3,vD⟩=vE (ve A rows.length c):=hB.cell 3;clear hb)
  go_ret
  exact ⟨by rw [E.out];rfl,Ia⟩
 have d2:=db z2;by_cases z3:65536<vars
 ·have E:=zH (show Nc p pub vars rows=false by unfold Nc;rw [tb z3];simp)
  have d3:=tb z3;clear b1;go_enter func110,ntmps110
  go_wp2_with (go_at_call 152;refine (lD p _ hp).mono ?_;rintro e w1 ⟨rfl,hb⟩;rw [B1.out];have hB:=(Blk.new w _ _).below hb (by simp);have Ia:vA w.1.size w w1:=pa ((Ca _ w).alloc zR _) hb;have t1:w1.cell? ⟨w.1.size,1,vD⟩=vE (vd vq pub):=hB.cell 1;have t2:w1.cell? ⟨w.1.size,2,vD⟩=vE (vd vq vars):=hB.cell 2;have t3:w1.cell? ⟨w.1.size,3,vD⟩=vE (ve A rows.length c):=hB.cell 3;clear hb)
  go_ret
  exact ⟨by rw [E.out];rfl,Ia⟩
 have d3:=db z3;by_cases z4:(16384:Int)<rows.length
 ·have E:=zH (show Nc p pub vars rows=false by unfold Nc;rw [tb z4];simp)
  have d4:=tb z4;clear b1;go_enter func110,ntmps110
  go_wp2_with (go_at_call 152;refine (lD p _ hp).mono ?_;rintro e w1 ⟨rfl,hb⟩;rw [B1.out];have hB:=(Blk.new w _ _).below hb (by simp);have Ia:vA w.1.size w w1:=pa ((Ca _ w).alloc zR _) hb;have t1:w1.cell? ⟨w.1.size,1,vD⟩=vE (vd vq pub):=hB.cell 1;have t2:w1.cell? ⟨w.1.size,2,vD⟩=vE (vd vq vars):=hB.cell 2;have t3:w1.cell? ⟨w.1.size,3,vD⟩=vE (ve A rows.length c):=hB.cell 3;clear hb)
  go_ret
  exact ⟨by rw [E.out];rfl,Ia⟩
 have d4:=db z4;have E:=zH (show Nc p pub vars rows=rows.all (qn p vars) by unfold Nc;rw [b1,d1,d2,d3,d4];simp)
 clear b1;go_enter func110,ntmps110
 go_wp2_with (go_at_call 152;refine (lD p _ hp).mono ?_;rintro e w1 ⟨rfl,hb⟩;rw [B1.out];have hB:=(Blk.new w _ _).below hb (by simp);have Ia:vA w.1.size w w1:=pa ((Ca _ w).alloc zR _) hb;have t1:w1.cell? ⟨w.1.size,1,vD⟩=vE (vd vq pub):=hB.cell 1;have t2:w1.cell? ⟨w.1.size,2,vD⟩=vE (vd vq vars):=hB.cell 2;have t3:w1.cell? ⟨w.1.size,3,vD⟩=vE (ve A rows.length c):=hB.cell 3;clear hb)
 go_loopw [3] (fun i wr=>∃ j:Nat,j <= rows.length /\ i=vd vq j /\ vA w1.1.size w1 wr /\ Hid (∀ k<j,∀ h:k<rows.length,qn p vars rows[k]=true))
  (fun i _=>rows.length-(intOf i).toNat)
 case atStart=>exact ⟨0,Mb _,rfl,Ca _ _,fun k hk=>by omega⟩
 case round =>
  obtain ⟨j,hj,rfl,Db,HB⟩:=hrel;have s3:wr.cell? ⟨w.1.size,3,vD⟩=vE (ve A rows.length c):=(ja hB Db).cell 3;by_cases ta:j<rows.length
  ·have Ns:Blk wr.drew w.1.size 25 _:=hB.below Db.drew hB.lt
   have Jb:vA w.1.size w wr.drew:=pa Ia Db.drew;obtain ⟨b,q,rfl⟩:=Ra.base (by omega) (by omega)
   obtain ⟨cs,-,hc,x,y,z,rfl,Zc,Ge,kd⟩:=(Ra.below Bg Jb).get ta;have h0:wr.drew.cell? ⟨b,q+j*3,vD⟩=vE x:=hc 0 (by omega)
   have h1:wr.drew.cell? ⟨b,q+j*3+1,vD⟩=vE y:=hc 1 (by omega)
   have h2:wr.drew.cell? ⟨b,q+j*3+2,vD⟩=vE z:=hc 2 (by omega)
   have HL:=zH ta;have i1:(0:Int)<=j:=by omega
   have i2:(j:Int)<rows.length:=by omega
   clear hc;cases bo:qn p vars rows[j]
   ·have HO:=zH bo
    clear bo;go_wp2_with fail
    refine qN Ub (by kernel_rfl) ?_
    refine xm 0 (v:=Tb p pub vars (ve (vE ⟨b,q,vD⟩) rows.length c)) ra (by decide) (by kernel_rfl) (by kernel_rfl) (by kernel_rfl) (fun _ _ _ h=>h) (It (by rfl) ?_) ?_;· ( intro w' hR;simp only [Ig,wg];unfold Tb;have q0:=(ja Ns hR).cell 0;have q1:=(ja Ns hR).cell 1;have q2:=(ja Ns hR).cell 2;have q3:=(ja Ns hR).cell 3;simp at q0 q1 q2 q3;go_simp )
    simp only [vG,Ig,wg,Da,Ga,Fa];refine xm 1 (v:=?_) ra (by decide) (by kernel_rfl) (by kernel_rfl) (by kernel_rfl) (fun _ _ _ h=>h) (It (by rfl) ?_) ?_;rotate_left;· ( intro w' hR;simp only [Ig,wg];go_simp;try with_reducible rfl )
    simp only [vG,Ig,wg,Da,Ga,Fa];refine xm 2 (v:=ve (vE ⟨b,q,vD⟩) rows.length c) ra (by decide) (by kernel_rfl) (by kernel_rfl) (by kernel_rfl) (fun _ _ _ h=>h) (It (by rfl) ?_) ?_;· ( intro w' hR;simp only [Ig,wg];have q3:=(ja Ns hR).cell 3;simp at q3;go_simp )
    simp only [vG,Ig,wg,Da,Ga,Fa];refine xm 3 (v:=?_) ra (by decide) (by kernel_rfl) (by kernel_rfl) (by kernel_rfl) (fun _ _ _ h=>h) (It (by rfl) ?_) ?_;rotate_left;· ( intro w' hR;simp only [Ig,wg];go_simp;try with_reducible rfl )
    simp only [vG,Ig,wg,Da,Ga,Fa];refine xm 4 (v:=?_) ra (by decide) (by kernel_rfl) (by kernel_rfl) (by kernel_rfl) (fun _ _ _ h=>h) (It (by rfl) ?_) ?_;rotate_left;· ( intro w' hR;simp only [Ig,wg];go_simp;try with_reducible rfl )
    simp only [vG,Ig,wg,Da,Ga,Fa];refine xm 5 (v:=vf #[x,y,z]) ra (by decide) (by kernel_rfl) (by kernel_rfl) (by kernel_rfl) (fun _ _ _ h=>h) (It (by rfl) ?_) ?_;· ( intro w' hR;simp only [Ig,wg];have r0:=jw hR h0;have r1:=jw hR h1;have r2:=jw hR h2;go_simp )
    simp only [vG,Ig,wg,Da,Ga,Fa];refine zAY 6 ra (by decide) (by kernel_rfl) (by rfl) ((o8 p pub vars (ve (vE ⟨b,q,vD⟩) rows.length c) rows[j] x y z _ Zc Ge kd hp).mono ?_) (fun _=>by simp only [Ig,wg];go_simp)
    rintro e w3 ⟨rfl,Sa⟩;rw [HO.out];refine ⟨_,rfl,Sa,?_⟩;simp only [vG,Ig,wg,Da,Ga,Fa];refine xm 7 (v:=?_) ra (by decide) (by kernel_rfl) (by kernel_rfl) (by kernel_rfl) (fun _ _ _ h=>h) (It (by rfl) ?_) ?_;rotate_left;· ( intro w' hR;simp only [Ig,wg];go_simp;try with_reducible rfl )
    simp only [vG,Ig,wg,Da,Ga,Fa];refine aX (by kernel_rfl) ?_
    go_wp2;go_ret
    refine ⟨by rw [E.out,jz.2 ⟨rows[j],zf HL.out,fun h=>Bool.noConfusion (HO.out.symm.trans h)⟩];rfl,pa Jb Sa⟩
   ·have HO:=zH bo
    clear bo;go_wp2_with fail
    refine qN Ub (by kernel_rfl) ?_
    refine xm 0 (v:=Tb p pub vars (ve (vE ⟨b,q,vD⟩) rows.length c)) ra (by decide) (by kernel_rfl) (by kernel_rfl) (by kernel_rfl) (fun _ _ _ h=>h) (It (by rfl) ?_) ?_;· ( intro w' hR;simp only [Ig,wg];unfold Tb;have q0:=(ja Ns hR).cell 0;have q1:=(ja Ns hR).cell 1;have q2:=(ja Ns hR).cell 2;have q3:=(ja Ns hR).cell 3;simp at q0 q1 q2 q3;go_simp )
    simp only [vG,Ig,wg,Da,Ga,Fa];refine xm 1 (v:=?_) ra (by decide) (by kernel_rfl) (by kernel_rfl) (by kernel_rfl) (fun _ _ _ h=>h) (It (by rfl) ?_) ?_;rotate_left;· ( intro w' hR;simp only [Ig,wg];go_simp;try with_reducible rfl )
    simp only [vG,Ig,wg,Da,Ga,Fa];refine xm 2 (v:=ve (vE ⟨b,q,vD⟩) rows.length c) ra (by decide) (by kernel_rfl) (by kernel_rfl) (by kernel_rfl) (fun _ _ _ h=>h) (It (by rfl) ?_) ?_;· ( intro w' hR;simp only [Ig,wg];have q3:=(ja Ns hR).cell 3;simp at q3;go_simp )
    simp only [vG,Ig,wg,Da,Ga,Fa];refine xm 3 (v:=?_) ra (by decide) (by kernel_rfl) (by kernel_rfl) (by kernel_rfl) (fun _ _ _ h=>h) (It (by rfl) ?_) ?_;rotate_left;· ( intro w' hR;simp only [Ig,wg];go_simp;try with_reducible rfl )
    simp only [vG,Ig,wg,Da,Ga,Fa];refine xm 4 (v:=?_) ra (by decide) (by kernel_rfl) (by kernel_rfl) (by kernel_rfl) (fun _ _ _ h=>h) (It (by rfl) ?_) ?_;rotate_left;· ( intro w' hR;simp only [Ig,wg];go_simp;try with_reducible rfl )
    simp only [vG,Ig,wg,Da,Ga,Fa];refine xm 5 (v:=vf #[x,y,z]) ra (by decide) (by kernel_rfl) (by kernel_rfl) (by kernel_rfl) (fun _ _ _ h=>h) (It (by rfl) ?_) ?_;· ( intro w' hR;simp only [Ig,wg];have r0:=jw hR h0;have r1:=jw hR h1;have r2:=jw hR h2;go_simp )
    simp only [vG,Ig,wg,Da,Ga,Fa];refine zAY 6 ra (by decide) (by kernel_rfl) (by rfl) ((o8 p pub vars (ve (vE ⟨b,q,vD⟩) rows.length c) rows[j] x y z _ Zc Ge kd hp).mono ?_) (fun _=>by simp only [Ig,wg];go_simp)
    rintro e w3 ⟨rfl,Sa⟩;rw [HO.out];refine ⟨_,rfl,Sa,?_⟩;simp only [vG,Ig,wg,Da,Ga,Fa];refine xm 7 (v:=?_) ra (by decide) (by kernel_rfl) (by kernel_rfl) (by kernel_rfl) (fun _ _ _ h=>h) (It (by rfl) ?_) ?_;rotate_left;· ( intro w' hR;simp only [Ig,wg];go_simp;try with_reducible rfl )
    simp only [vG,Ig,wg,Da,Ga,Fa];refine aX (by kernel_rfl) ?_
    go_wp2
    go_roundw
    case rel =>
     refine ⟨j+1,by omega,by go_num,pa Db.drew Sa,fun k hk h=>?_⟩
     rcases Sg k j with h5 | h5
     ·exact HB.out k h5 h
     ·have e:k=j:=by omega
      subst e;exact HO.out
    case measure=>simp [intOf];omega
  ·go_wp2
   go_ret
   have e:j=rows.length:=by omega
   refine ⟨by rw [E.out,fe.2 (fun r hr=>by obtain ⟨k,hk,rfl⟩:=Hm hr;exact HB.out k (by omega) hk)];rfl,pa Ia Db⟩
def Th (p:Nat) (vars:Int) (l:List Nat):Bool:=!((l.length:Int) != vars)&&!((l.length:Int) == 0)&&!(((l.getD 0 0:Nat):Int) != 1)&&l.all fun x=>decide (x<p)
theorem RWd.at_ {w:vw} {A:Option vy} {l:List Nat} (h:Rd w 1 A l.length (Oa l)) {i:Nat} (hi:i<l.length):∃ ad,A=vE ad /\ w.cell? (ad.add i)=vE (vd vn ((l.getD i 0:Nat):Int)):=by
 obtain ⟨ad,u,rfl,hu,hc⟩:=h.at_ hi;rw [yB hi] at hu
 injection hu with hu
 subst hu;exact ⟨ad,rfl,by simpa [hi] using hc⟩
theorem GV (p:Nat) (pub vars:Int) (T:vx) (A:Option vy) (n c:Nat) (l:List Nat) (w:vw) (hl:RWd w [ve A n c] l) (_hp:p<18446744073709551616) :
  vB prog 111 #[Tb p pub vars T,ve A n c] w fun e w'=>e=vl (.bool (Th p vars l)) /\ vA w.1.size w w':=by
 obtain ⟨A',n',c',he,Ld,Ef,Ra,ta⟩:=hl;simp at he
 obtain ⟨rfl,rfl,rfl⟩:=he;have hlen:=Ra.len1;rw [tt] at hlen;subst hlen;unfold Tb;have da:∀ o,vA w.1.size w (w.alloc o):=fun o=>(Ca _ w).alloc zR _
 by_cases z1:(l.length:Int)=vars
 ·subst z1
  rcases Ho l.length with z2 | z2
  ·have E:=zH (show Th p (l.length:Int) l=false by simp [Th,z2])
   rw [z2];rw [z2] at E;go_enter func111,ntmps111
   go_wp2_with fail
   go_ret
   exact ⟨by rw [E.out];rfl,da _⟩
  ·obtain ⟨ad,rfl,hc⟩:=RWd.at_ (Ra.below (da (.cells #[vd vn p,vd vq pub,vd vq l.length,T] 25))) z2
   have g0:((l.length:Int) == 0)=false:=by rw [Gd];omega
   have g1:(0:Int)<l.length:=by omega
   have gm:(l.length:Int) <= 9223372036854775807:=by
    have h3:=Ld;have h4:=Ef;simp [maxLen] at h4
    omega
   by_cases z3:l.getD 0 0=1
   ·have Lg:(w.alloc (.cells #[vd vn p,vd vq pub,vd vq l.length,T] 25)).cell? ad=vE (vd vn 1):=by
     rw [z3] at hc
     simpa [Addr.add] using hc
    have E:=zH (show Th p (l.length:Int) l=l.all fun x=>decide (x<p) by unfold Th;rw [z3,g0];simp)
    clear hc z3;go_enter func111,ntmps111
    go_wp2_with fail
    go_loopw [5] (fun i wr=>∃ j kk:Nat,j <= l.length /\ i=vd vq j /\ wr=(w.alloc (.cells #[vd vn p,vd vq pub,vd vq l.length,T] 25)).drewN kk /\ Hid (∀ k<j,l.getD k 0<p))
     (fun i _=>l.length-(intOf i).toNat)
    case atStart=>exact ⟨0,0,Mb _,rfl,rfl,fun k hk=>by omega⟩
    case round =>
     obtain ⟨j,kk,hj,rfl,rfl,HB⟩:=hrel;by_cases Yh:j<l.length
     ·obtain ⟨ad',he',hc⟩:=RWd.at_ (Ra.below (da (.cells #[vd vn p,vd vq pub,vd vq l.length,T] 25))) Yh
      injection he' with he'
      subst he';have g2:(0:Int)<=j:=by omega
      have g3:(j:Int)<l.length:=by omega
      have HL:=zH Yh;have HY:Hid (l.getD j 0=l.getD j 0):=rfl;revert hc HY
      generalize hy:l.getD j 0=y;intro hc _;have HY:=zH hy;clear hy;by_cases z4:p <= y
      ·have d4:decide ((p:Int)<=y)=true:=tb (by omega)
       have HZ:=zH z4;clear Ra z4;go_wp2_with fail
       go_quiet (fail)
       go_wp2;go_ret
       have HA:(l.all fun x=>decide (x<p))=false:=by
        refine jz.2 ⟨l[j]'HL.out,zf HL.out,?_⟩;have h1:=HY.out;have h2:=HZ.out;simp [HL.out] at h1
        simp [h1]
        omega
       exact ⟨by rw [E.out,HA];rfl,Ds (Ds (da _) _) _⟩
      ·have d4:decide ((p:Int)<=y)=false:=db (by omega)
       have HZ:=zH z4;clear Ra z4;go_wp2_with fail
       go_quiet (fail)
       go_wp2
       go_roundw
       case rel =>
        refine ⟨j+1,_,by omega,by go_num,rfl,fun k hk=>?_⟩
        rcases Sg k j with h5 | h5
        ·exact HB.out k h5
        ·have e:k=j:=by omega
         subst e;have h1:=HY.out;have h2:=HZ.out;omega
       case measure=>simp [intOf];omega
     ·go_wp2
      go_ret
      have e:j=l.length:=by omega
      have HA:(l.all fun x=>decide (x<p))=true:=by
       refine fe.2 ?_;intro x hx;obtain ⟨k,hk,rfl⟩:=Hm hx;have:=HB.out k (by omega)
       simpa [hk] using this
      exact ⟨by rw [E.out,HA];rfl,Ds (da _) _⟩
   ·have Lg:(w.alloc (.cells #[vd vn p,vd vq pub,vd vq l.length,T] 25)).cell? ad=vE (vd vn ((l.getD 0 0:Nat):Int)):=by simpa [Addr.add] using hc
    have d3:(((l.getD 0 0:Nat):Int) != 1)=true:=by rw [Bf];omega
    have E:=zH (show Th p (l.length:Int) l=false by unfold Th;rw [d3];simp)
    clear hc z3;revert Lg d3
    generalize l.getD 0 0=y;intro Lg d3;go_enter func111,ntmps111
    go_wp2_with fail
    go_ret
    exact ⟨by rw [E.out];rfl,da _⟩
 ·have d1:((l.length:Int) != vars)=true:=by rw [Bf];exact z1
  have E:=zH (show Th p vars l=false by simp [Th,z1])
  go_enter func111,ntmps111
  go_wp2_with fail
  go_ret
  exact ⟨by rw [E.out];rfl,da _⟩
theorem zAy (n k:Nat) (w:vw) (hn:n <= 1000000000) (hk:0<k) (hk2:k <= 1000000000) :
  vB prog 155 #[vd vq n,vd vq k] w fun e w'=>e=vl (vd vq (((n+k-1) / k:Nat):Int)) /\ w'=w:=by
 obtain ⟨m,rfl⟩:∃ m,k=m+1:=⟨k-1,by omega⟩
 have e1:Hid (((n+(m+1)-1) / (m+1):Nat)=(n+m) / (m+1)):=rfl;go_enter func155,ntmps155
 go_wp2_with fail
 go_ret
 refine ⟨?_,rfl⟩;show Ending.returned (vd vq (((n:Int)+((m:Int)+1)-1) / ((m:Int)+1)))=_
 rw [show (n:Int)+((m:Int)+1)-1=((n+(m+1)-1:Nat):Int) from by omega]
 rfl
theorem Jy {w:vw} {A:Option vy} {n:Nat} {xs:List vx} (h:Rd w 1 A n xs) (hn:0<n):∃ b q,A=vE ⟨b,q,vD⟩ /\ b<w.1.size /\ ∀ k,k<n -> w.cell? ⟨b,q+k,vD⟩=xs[k]?:=by
 obtain ⟨ad,rfl,hc⟩:=h.2 hn;have hl:=h.len1;have h0:=hc 0 _ (Xb (by omega))
 obtain ⟨b,q,rfl⟩:∃ b q,ad=⟨b,q,vD⟩:=by
  have hs:=World.cell?_spot h0;rw [yX] at hs;obtain ⟨b,q,s⟩:=ad;simp at hs
  subst hs;exact ⟨b,q,rfl⟩
 refine ⟨b,q,rfl,Jf _ _ (by rw [yX] at h0;exact h0),fun k hk=>?_⟩
 rw [<- Sl,hc k _ (Xb (by omega)),Xb (by omega)]
def ir (p:Nat) (ws:List Nat) (s:Nat) (t:Int × Nat):Nat:=if 0 <= t.1 /\ t.1<(ws.length:Int) then (s+t.2*ws.getD t.1.toNat 0%p)%p else s
def Ec (p:Nat) (l:List (Int × Nat)) (ws:List Nat):Nat:=l.foldl (ir p ws) 0
theorem NP (p:Nat) (l:List (Int × Nat)) (ws:List Nat) (j:Nat) (h:j<l.length):Ec p (l.take (j+1)) ws=ir p ws (Ec p (l.take j) ws) (l.getD j (0,0)):=by
 unfold Ec;rw [Su h,List.foldl_append];simp [h]
theorem IV (p:Nat) (A B:Option vy) (len c n d:Nat) (l:List (Int × Nat)) (ws:List Nat) (w:vw) (hl:RLin w [ve A len c] l) (hw:RWd w [ve B n d] ws) (hp:Fb p=true) :
  vB prog 149 #[vd vn p,ve A len c,ve B n d] w fun e w'=>e=vl (vd vn (Ec p l ws:Nat)) /\ vA w.1.size w w':=by
 obtain ⟨A',n',c',he,hlen,Ld,Ef,Ra⟩:=hl;simp at he
 obtain ⟨rfl,rfl,rfl⟩:=he;subst hlen;obtain ⟨B',m',d',he,Xs,hmy,Vf,hlw⟩:=hw;simp at he
 obtain ⟨rfl,rfl,rfl⟩:=he;have hm:ws.length=n:=by have:=Vf.len1;rwa [tt] at this
 subst hm;have g0:(l.length:Int) <= 9223372036854775807:=by
  simp [maxLen] at Ef
  omega
 go_enter func149,ntmps149
 go_wp2_with fail
 go_loopw [7,8] (fun s i wr=>∃ j:Nat,j <= l.length /\ i=vd vq j /\ s=vd vn (Ec p (l.take j) ws:Nat) /\ vA w.1.size w wr)
  (fun _ i _=>l.length-(intOf i).toNat)
 case atStart=>exact ⟨0,Mb _,rfl,rfl,Ca _ _⟩
 case round =>
  obtain ⟨j,hj,rfl,rfl,hb⟩:=hrel;by_cases ta:j<l.length
  ·have HS:=zH (NP p l ws j ta)
   revert HS
   generalize Ec p (l.take j) ws=s;intro HS;obtain ⟨b,q,rfl⟩:=Ra.base (by omega) (by omega)
   have Uv:=Ra.below EF hb;obtain ⟨c1,c2⟩:=RLin.at_ Uv ta;have Gb:=Jf _ _ c1;have HL:=zH ta;have g1:(0:Int)<=j:=by omega
   have g2:(j:Int)<l.length:=by omega
   have HW:=zH (fun (k:Nat) (hk:k<ws.length)=>(Jy (Vf.below hb) (by omega)).imp fun b' h=>h.imp fun q' h=>(⟨h.1,h.2.1,(h.2.2 k hk).trans (yB hk)⟩:_ /\ _ /\ _=vE (vd vn (ws[k]:Int))))
   revert c1 c2 HS
   generalize hx:(l.getD j (0,0))=t;obtain ⟨x,y⟩:=t;clear hx;simp only;intro HS c1 c2;clear Ra Uv Vf;by_cases z1:x<0
   ·have d1:decide (0 <= x)=false:=db (by omega)
    have HE:=zH (show Ec p (l.take (j+1)) ws=s by rw [HS.out,ir,ya (by simp;omega)])
    go_wp2_with fail
    go_roundw
    case rel=>exact ⟨j+1,by omega,by go_num,by rw [HE.out],hb⟩
    case measure=>simp [intOf];omega
   ·obtain ⟨k,rfl⟩:=Zk (show 0 <= x by omega)
    by_cases z2:k<ws.length
    ·have d1:decide ((0:Int)<=k)=true:=tb (by omega)
     have d2:decide ((k:Int)<ws.length)=true:=tb (by omega)
     obtain ⟨b',q',rfl,Qs,c3⟩:=HW.out k z2;have HE:=zH (show Ec p (l.take (j+1)) ws=(s+y*ws[k]%p)%p by rw [HS.out,ir,Na (by simp;omega)];show (s+y*ws.getD ((k:Int)).toNat 0%p)%p=_;rw [Bk,Cb,Xb z2,Option.getD_some])
     clear HW HS;revert c3 HE
     generalize ws[k]=v;have HM:=zH (fun w=>l8 p y v w hp)
     revert HM
     generalize y*v%p=m;intro HM c3 HE;have i1:(0:Int)<=k:=by omega
     have i2:(k:Int)<ws.length:=by omega
     go_wp2_with fail
     refine zd (Ub) [16,17] [0,1,2,3,4,5,6,7,8,9,10,11,12,13,14,15,16,17,18] (by kernel_rfl) (by kernel_rfl) ?_
     refine Kw (ra) ?_;intro Wc ia;refine Qb ?_;refine Bc (ra) rfl rfl rfl (fun _=>by go_simp <;> rfl) ((HM.out _).mono ?_)
     rintro e w2 ⟨rfl,Ba⟩;refine ⟨_,rfl,Ba,?_⟩;replace ia:=(ra).trans _ _ _ ia (Ba);refine zPU ?_;refine Qb ?_;refine Bc (ra) rfl rfl rfl (fun _=>by go_simp <;> rfl) ((zGy p s m _ hp).mono ?_)
     rintro e w3 ⟨rfl,Sa⟩;refine ⟨_,rfl,Sa,?_⟩;replace ia:=(ra).trans _ _ _ ia (Sa);refine zPU ?_;refine Qb ?_;refine Jc ?_;go_wp2
     go_roundw
     case rel=>exact ⟨j+1,by omega,by go_num,by rw [HE.out];rfl,pa hb.drew ia⟩
     case measure=>simp [intOf];omega
    ·have d1:decide ((0:Int)<=k)=true:=tb (by omega)
     have d2:decide ((k:Int)<ws.length)=false:=db (by omega)
     have HE:=zH (show Ec p (l.take (j+1)) ws=s by rw [HS.out,ir,ya (by simp;omega)])
     go_wp2_with fail
     go_roundw
     case rel=>exact ⟨j+1,by omega,by go_num,by rw [HE.out],hb⟩
     case measure=>simp [intOf];omega
  ·go_wp2
   go_ret
   have e:j=l.length:=by omega
   subst e;exact ⟨by rw [Zr];rfl,hb⟩
def Ky (p:Nat) (r:Ua) (ws:List Nat):Bool:=decide (Ec p r.a ws*Ec p r.b ws%p=Ec p r.c ws)
theorem zGA (p:Nat) (x y z:vx) (B:Option vy) (n d:Nat) (r:Ua) (ws:List Nat) (w:vw) (hx:RLin w [x] r.a) (hy:RLin w [y] r.b) (hz:RLin w [z] r.c) (hw:RWd w [ve B n d] ws) (hp:Fb p=true) :
  vB prog 207 #[vd vn p,vf #[x,y,z],ve B n d] w fun e w'=>e=vl (.bool (Ky p r ws)) /\ vA w.1.size w w':=by
 obtain ⟨v1,Xi⟩:=zEX (Ec p r.a ws*Ec p r.b ws%p);obtain ⟨v2,ah⟩:=zEX (Ec p r.c ws);obtain ⟨ro,lU⟩:∃ ro,ro=Ky p r ws:=⟨_,rfl⟩;have ff:Hid (((v1:Int)==v2)=ro):=zH (by rw [lU];unfold Ky;rw [<- Xi,<- ah];exact Bool.eq_iff_iff.2 (by simp;omega))
 rw [<- lU];clear lU;have Hn:=zH Xi;have zo:=zH ah;clear Xi ah;obtain ⟨A1,n1,c1,rfl⟩:=RSl.slc hx;obtain ⟨A2,n2,c2,rfl⟩:=RSl.slc hy;obtain ⟨A3,n3,c3,rfl⟩:=RSl.slc hz;have da:vA w.1.size w (w.alloc (.cells #[ve A1 n1 c1,ve A2 n2 c2,ve A3 n3 c3] 211)):=(Ca _ w).alloc zR _;have hB:=Blk.new w 211 #[ve A1 n1 c1,ve A2 n2 c2,ve A3 n3 c3];have HP:=zH hp;clear hp;revert da hB
 generalize Vn:w.alloc (.cells #[ve A1 n1 c1,ve A2 n2 c2,ve A3 n3 c3] 211)=w0;intro da hB;have HW0:=zH Vn;clear Vn;have k0:w0.cell? ⟨w.1.size,0,vD⟩=vE (ve A1 n1 c1):=hB.cell 0;have k1:w0.cell? ⟨w.1.size,1,vD⟩=vE (ve A2 n2 c2):=hB.cell 1;have k2:w0.cell? ⟨w.1.size,2,vD⟩=vE (ve A3 n3 c3):=hB.cell 2;have ta:=hB.lt;go_enter func207,ntmps207
 go_wp2_with fail
 rw [HW0.out];refine zd (Ub) [5,10,11,16] [0,1,2,3,4,6,7,8,9,12,13,14,15,5,10,11,16,17,18] (by kernel_rfl) (by kernel_rfl) ?_
 refine Kw (ra) ?_;intro Wc ia;refine Qb ?_;refine Bc (ra) rfl rfl rfl (fun _=>by go_simp <;> rfl) ((IV p _ _ _ _ _ _ r.a ws _ (uh _ _ _ _ (pa da.drew ia) hx) (Bb (pa da.drew ia) hw) HP.out).mono ?_)
 rintro e w2 ⟨rfl,Ba⟩;refine ⟨_,rfl,Ba,?_⟩;replace ia:=(ra).trans _ _ _ ia (Ba);refine zPU ?_;refine Qb ?_;refine Bc (ra) rfl rfl rfl (fun _=>by go_simp <;> rfl) ((IV p _ _ _ _ _ _ r.b ws _ (uh _ _ _ _ (pa da.drew ia) hy) (Bb (pa da.drew ia) hw) HP.out).mono ?_)
 rintro e w3 ⟨rfl,Sa⟩;refine ⟨_,rfl,Sa,?_⟩;replace ia:=(ra).trans _ _ _ ia (Sa);refine zPU ?_;refine Qb ?_;refine Bc (ra) rfl rfl rfl (fun _=>by go_simp <;> rfl) ((l8 p (Ec p r.a ws) (Ec p r.b ws) _ HP.out).mono ?_)
 rintro e w4 ⟨rfl,Ab⟩;refine ⟨_,rfl,Ab,?_⟩;replace ia:=(ra).trans _ _ _ ia (Ab);refine zPU ?_;rw [<- Hn.out];refine Qb ?_;refine Bc (ra) rfl rfl rfl (fun _=>by go_simp <;> rfl) ((IV p _ _ _ _ _ _ r.c ws _ (uh _ _ _ _ (pa da.drew ia) hz) (Bb (pa da.drew ia) hw) HP.out).mono ?_)
 rintro e w5 ⟨rfl,Ya⟩;refine ⟨_,rfl,Ya,?_⟩;replace ia:=(ra).trans _ _ _ ia (Ya);refine zPU ?_;rw [<- zo.out];have af:=ff.out;refine Qb ?_;refine Jc ?_;go_wp2;go_ret
 exact ⟨rfl,pa da.drew ia⟩
def Gw (p:Nat) (rows:List Ua) (ws:List Nat):Bool:=rows.all fun r=>Ky p r ws
theorem A9 {p:Nat} {rows:List Ua} {ws:List Nat} (h:∀ k (hk:k<rows.length),Ky p rows[k] ws=true):Gw p rows ws=true:=fe.2 fun r hr=>by
 obtain ⟨k,hk,rfl⟩:=Hm hr;exact h k hk
theorem B9 {p:Nat} {rows:List Ua} {ws:List Nat} {k:Nat} (hk:k<rows.length) (h:Ky p rows[k] ws=false):Gw p rows ws=false:=by
 cases e:Gw p rows ws
 ·rfl
 ·have:=fe.1 e rows[k] (zf hk)
  rw [h] at this;cases this
theorem oG {p:Nat} {pub vars:Int} {rows:List Ua} (h:Nc p pub vars rows=true):Fb p=true:=by
 unfold Nc at h;simp only [mc] at h;exact h.1.1.1.1.1
theorem zGz (p:Nat) (pub vars:Int) (A B:Option vy) (n c m d:Nat) (rows:List Ua) (ws:List Nat) (w:vw) (hr:RSl 3 Ud w [ve A n c] rows) (hw:RWd w [ve B m d] ws)
  (ht:Nc p pub vars rows=true) (ha:Th p vars ws=true) :
  vB prog 112 #[Tb p pub vars (ve A n c),ve B m d] w fun e w'=>(∃ n:Int,e=vl (vd vq n) /\ decide (n<0)=Gw p rows ws) /\ vA w.1.size w w':=by
 have Xa:=oG ht;have hp:=(Pb Xa).2;have HV:=zH (fun w' (hb:vA w.1.size w w')=>WM p pub vars A n c rows w' (Dg Bg _ _ _ _ hb hr) hp)
 have HA:=zH (fun w' (hb:vA w.1.size w w')=>GV p pub vars (ve A n c) B m d ws w' (Bb hb hw) hp)
 rw [ht] at HV;rw [ha] at HA;clear ht ha;have hr0:=hr;obtain ⟨A',n',c',he,hlen,Ld,Ef,Ra⟩:=hr;simp at he
 obtain ⟨rfl,rfl,rfl⟩:=he;subst hlen;unfold Tb;have gm:(rows.length:Int) <= 9223372036854775807:=by
  simp [maxLen] at Ef
  omega
 have da:vA w.1.size w (w.alloc (.cells #[vd vn p,vd vq pub,vd vq vars,ve A rows.length c] 25)):=(Ca _ w).alloc zR _;have hB:=Blk.new w 25 #[vd vn p,vd vq pub,vd vq vars,ve A rows.length c];have HP:=zH hp;have HO:=zH Xa;clear hp Xa;go_enter func112,ntmps112
 go_wp2_with (first | (go_at_call 111;refine (HA.out _ (pa da hb)).mono ?_;rintro e w2 ⟨rfl,Ba⟩) | (go_at_call 110;refine (HV.out _ da).mono ?_;rintro e w1 ⟨rfl,hb⟩;have Ad:=hB.below hb (by simp);have t0:w1.cell? ⟨w.1.size,0,vD⟩=vE (vd vn p):=Ad.cell 0;have t1:w1.cell? ⟨w.1.size,1,vD⟩=vE (vd vq pub):=Ad.cell 1;have t2:w1.cell? ⟨w.1.size,2,vD⟩=vE (vd vq vars):=Ad.cell 2;have t3:w1.cell? ⟨w.1.size,3,vD⟩=vE (ve A rows.length c):=Ad.cell 3))
 clear t0 t1 t2 t3;have lh:=ja Ad Ba;have Jb:=pa (pa da hb) Ba;clear Ad hB hb Ba da;go_loopw [5] (fun i wr=>∃ j:Nat,j <= rows.length /\ i=vd vq j /\ vA w2.1.size w2 wr /\ Hid (∀ k (hk:k<rows.length),k<j -> Ky p rows[k] ws=true))
  (fun i _=>rows.length-(intOf i).toNat)
 case atStart=>exact ⟨0,Mb _,rfl,Ca _ _,fun k _ hk=>by omega⟩
 case round =>
  obtain ⟨j,hj,rfl,Db,Tw⟩:=hrel;have Ns:=ja lh Db;have t0:wr.cell? ⟨w.1.size,0,vD⟩=vE (vd vn p):=Ns.cell 0;have t3:wr.cell? ⟨w.1.size,3,vD⟩=vE (ve A rows.length c):=Ns.cell 3;have l0:=Ns.lt;by_cases ta:j<rows.length
  ·obtain ⟨b,q,rfl⟩:=Ra.base (by omega) (by omega)
   obtain ⟨cs,-,hc,x,y,z,rfl,hx,hy,hz⟩:=(Ra.below Bg (pa Jb Db)).get ta;have c0:wr.cell? ⟨b,q+j*3,vD⟩=vE x:=hc 0 (by omega)
   have c1:wr.cell? ⟨b,q+j*3+1,vD⟩=vE y:=hc 1 (by omega)
   have c2:wr.cell? ⟨b,q+j*3+2,vD⟩=vE z:=hc 2 (by omega)
   have l1:b<wr.1.size:=Jf _ _ c0;have g1:(0:Int)<=j:=by omega
   have g2:(j:Int)<rows.length:=by omega
   clear hc;go_wp2_with fail
   refine zd (Ub) [8] [0,1,2,3,4,5,6,7,8,9] (by kernel_rfl) (by kernel_rfl) ?_
   refine Kw (ra) ?_;intro Wc ia;refine Qb ?_;refine Bc (ra) rfl rfl rfl (fun _=>by go_simp <;> rfl) ((zGA p x y z B m d rows[j] ws _ (uh _ _ _ _ ia hx) (uh _ _ _ _ ia hy) (uh _ _ _ _ ia hz) (Bb (pa (pa Jb Db.drew) ia) hw) HO.out).mono ?_)
   rintro e w3 ⟨rfl,Sa⟩;refine ⟨_,rfl,Sa,?_⟩;replace ia:=(ra).trans _ _ _ ia (Sa);refine zPU ?_;refine Qb ?_;refine Jc ?_;have Zb:=zH ta;cases mh:Ky p rows[j] ws
   ·have HBO:=zH mh
    clear mh;go_wp2;go_ret
    exact ⟨⟨_,rfl,(db (by omega)).trans (B9 Zb.out HBO.out).symm⟩,pa (pa Jb Db.drew) ia⟩
   ·have HBO:=zH mh
    clear mh;go_wp2
    go_roundw
    case rel =>
     refine ⟨j+1,by omega,by go_num,pa Db.drew ia,fun k hk hkj=>?_⟩
     by_cases e:k<j
     ·exact Tw.out k hk e
     ·obtain rfl:k=j:=by omega
      exact HBO.out
    case measure=>simp [intOf];omega
  ·have HS:=zH (A9 fun k hk=>Tw.out k hk (by omega))
   go_wp2;go_ret
   exact ⟨⟨_,rfl,(tb (by omega)).trans HS.out.symm⟩,pa Jb Db⟩
theorem zGG (p:Nat) (pub vars:Int) (A B:Option vy) (n c m d:Nat) (rows:List Ua) (ws:List Nat) (w:vw) (hr:RSl 3 Ud w [ve A n c] rows) (hw:RWd w [ve B m d] ws)
  (ht:Nc p pub vars rows=true) (ha:Th p vars ws=true) :
  vB prog 51 #[Tb p pub vars (ve A n c),ve B m d] w fun e w'=>e=vl (.bool (Gw p rows ws)) /\ vA w.1.size w w':=by
 have Xa:=oG ht;have hp:=(Pb Xa).2;have HV:=zH (fun w' (hb:vA w.1.size w w')=>WM p pub vars A n c rows w' (Dg Bg _ _ _ _ hb hr) hp)
 have HA:=zH (fun w' (hb:vA w.1.size w w')=>GV p pub vars (ve A n c) B m d ws w' (Bb hb hw) hp)
 have HF:=zH (fun w' (hb:vA w.1.size w w')=>zGz p pub vars A B n c m d rows ws w' (Dg Bg _ _ _ _ hb hr) (Bb hb hw) ht ha)
 rw [ht] at HV;rw [ha] at HA;clear ht ha hp Xa;obtain ⟨A',n',c',he,-⟩:=hr;simp at he
 obtain ⟨rfl,rfl,rfl⟩:=he;unfold Tb;have da:vA w.1.size w (w.alloc (.cells #[vd vn p,vd vq pub,vd vq vars,ve A n c] 25)):=(Ca _ w).alloc zR _;have hB:=Blk.new w 25 #[vd vn p,vd vq pub,vd vq vars,ve A n c];go_enter func51,ntmps51
 go_wp2_with (first | (go_at_call 112;refine (HF.out _ (pa (pa da hb) Ba)).mono ?_;rintro e w3 ⟨⟨x,rfl,hx⟩,Sa⟩) | (go_at_call 111;refine (HA.out _ (pa da hb)).mono ?_;rintro e w2 ⟨rfl,Ba⟩;clear t0 t1 t2 t3;have lh:=ja Ad Ba;have t0:w2.cell? ⟨w.1.size,0,vD⟩=vE (vd vn p):=lh.cell 0;have t1:w2.cell? ⟨w.1.size,1,vD⟩=vE (vd vq pub):=lh.cell 1;have t2:w2.cell? ⟨w.1.size,2,vD⟩=vE (vd vq vars):=lh.cell 2;have t3:w2.cell? ⟨w.1.size,3,vD⟩=vE (ve A n c):=lh.cell 3) | (go_at_call 110;refine (HV.out _ da).mono ?_;rintro e w1 ⟨rfl,hb⟩;have Ad:=hB.below hb (by simp);have t0:w1.cell? ⟨w.1.size,0,vD⟩=vE (vd vn p):=Ad.cell 0;have t1:w1.cell? ⟨w.1.size,1,vD⟩=vE (vd vq pub):=Ad.cell 1;have t2:w1.cell? ⟨w.1.size,2,vD⟩=vE (vd vq vars):=Ad.cell 2;have t3:w1.cell? ⟨w.1.size,3,vD⟩=vE (ve A n c):=Ad.cell 3))
 go_ret
 exact ⟨by rw [<- hx];rfl,pa (pa (pa da hb) Ba) Sa⟩
theorem Nb {w:vw} {A:Option vy} {n c:Nat} {l:List Nat} (h:RWd w [ve A n c] l):n=l.length /\ n <= c /\ c <= maxLen /\ (∀ x∈l,x<18446744073709551616) /\ Rd w 1 A n (Oa l):=by
 obtain ⟨A',n',c',he,h1,h2,h3,h4⟩:=h;simp at he
 obtain ⟨rfl,rfl,rfl⟩:=he;have:=h3.len1;rw [tt] at this;exact ⟨this.symm,h1,h2,h4,h3⟩
theorem Fg {w:vw} {A:Option vy} {l:List Nat} (h:Rd w 1 A l.length (Oa l)) {j:Nat} (hj:j<l.length):∃ b q,A=vE ⟨b,q,vD⟩ /\ b<w.1.size /\ w.cell? ⟨b,q+j,vD⟩=vE (vd vn ((l.getD j 0:Nat):Int)):=by
 obtain ⟨b,q,e,hb,hc⟩:=Jy h (by omega)
 refine ⟨b,q,e,hb,?_⟩;rw [hc j hj,yB hj,Cb,Xb hj]
 rfl
theorem um {n c:Nat} (h1:n <= c) (h2:c <= maxLen):(n:Int) <= 9223372036854775807:=by
 simp [maxLen] at h2
 omega
theorem uK {l:List Nat} {B:Nat} (h:∀ x∈l,x<B) {k:Nat} (hk:k<l.length):l.getD k 0<B:=by
 rw [Cb,Xb hk];exact h _ (zf _)
theorem BM (l:List Nat) (k:Nat) (h:k<l.length):l.take (k+1)=l.take k++[l.getD k 0]:=by
 rw [Su h,Cb,Xb h]
 rfl
theorem yt {w:vw} {base:Nat} {e:vz} {A:Option vy} {c n:Nat} {l:List Nat} (h:w.ownsRow base e 1 (ve A n c) n (Oa l)) (hl:∀ x∈l,x<18446744073709551616):RWd w [ve A n c] l:=by
 obtain ⟨A',c',he,h1,h2,h3,-⟩:=de h;simp at he
 obtain ⟨rfl,rfl⟩:=he;exact ⟨A,n,c,rfl,h1,h2,h3,hl⟩
theorem tp {W W':vw} {B:Nat} {e:vz} {size:Nat} {v:vx} {n:Nat} {xs:List vx} (h:W.ownsRow B e size v n xs) (hg:W.grownBy W' v.ownBlock) (hB:B <= W.1.size):vA B W W' :=
 Es hg B hB fun g e=>(h.lt g e).1
theorem MF {w:vw} {B m:Nat} {t:vz} {v:vx} {a b c:List Nat} (h:w.ownsRow B t 1 v m (Oa a++Oa b)) (e:a++b=c):w.ownsRow B t 1 v m (Oa c):=by
 rw [<- e,tX];exact h
theorem WI {w:vw} {g:Nat} {t:vz} {l:List Nat} (h:Blk w g t (Oa l).toArray) (hl:∀ x∈l,x<18446744073709551616) (hm:l.length <= maxLen):RWd w [ve (vE ⟨g,0,vD⟩) l.length l.length] l:=by
 refine ⟨_,_,_,rfl,zR,hm,⟨by rw [tt,Pp],fun _=>⟨_,rfl,fun j u hu=>?_⟩⟩,hl⟩
 rw [Sl,Lj,h.cell]
 simpa using hu
theorem St.lit (s:St):(Oa [s.a,s.b,s.c]).toArray=s.cs:=rfl
def tB (p:Nat):List Nat -> St -> St
 | [],s=>s
 | [x],s=>eD p ⟨(s.a+x)%p,s.b,s.c⟩
 | x :: y :: r,s=>tB p r (eD p ⟨(s.a+x)%p,(s.b+y)%p,s.c⟩)
def Wu (p label:Nat) (l:List Nat):St:=tB p l ⟨0,0,(label*65536%p+l.length)%p⟩
theorem zCy {l:List Nat} {i:Nat} (h:i+1<l.length):l.drop i=l.getD i 0 :: l.getD (i+1) 0 :: l.drop (i+2):=by
 rw [List.drop_eq_getElem_cons (by omega),List.drop_eq_getElem_cons h,Cb,Cb,Xb h,Xb (show i<l.length by omega)]
 rfl
theorem zCw {l:List Nat} {i:Nat} (h:i+1=l.length):l.drop i=[l.getD i 0]:=by
 rw [List.drop_eq_getElem_cons (by omega),Cb,Xb (show i<l.length by omega),List.drop_of_length_le (by omega)]
 rfl
theorem p7 (p label:Nat) (A:Option vy) (n c:Nat) (l:List Nat) (w:vw) (hp:Fb p=true) (hl:RWd w [ve A n c] l) (Ta:0<l.length) (hlen:l.length <= 1000000) :
  vB prog 271 #[vd vn p,vd vn label,ve A n c] w fun e w'=>e=vl (Wu p label l).val /\ vA w.1.size w w':=by
 obtain ⟨rfl,h1,h2,ta,Ra⟩:=Nb hl;have gm:=um h1 h2;have HMu:=zH (fun w=>Nq p label 65536 w hp)
 have HA0:=zH (fun w=>Om p (label*65536%p) l.length w hp)
 have HA:=zH (fun a b w=>Om p a b w hp)
 have HP:=zH (fun s w=>G7 p s w hp)
 have HF:=zH (show Wu p label l=tB p (l.drop 0) ⟨0,0,(label*65536%p+l.length)%p⟩ from rfl)
 have ew:vn.wrap (l.length:Int)=l.length:=Wk _ (by omega)
 generalize Wu p label l=fin at *;generalize (label*65536%p+l.length)%p=c0 at *;generalize label*65536%p=m0 at *;unfold fv at *;clear hl h1 h2 hp;have d0:((l.length:Int) == 0)=false:=by rw [Gd];omega
 obtain ⟨kr,kf,da,ib⟩:=Eh w 298 224 #[vd vn 0,vd vn 0,vd vn 0] #[vd vn p];go_enter func271,ntmps271
 go_wp2_with fail
 generalize (w.alloc _).alloc _=w0 at kr kf da ib |-;have cf:=kf.cell;have lf:=kf.lt;refine Pg (Ub) (ra) [9,10] [10] [0,1,2,3,4,5,6,7,8,9,10] (by kernel_rfl) (by kernel_rfl) ?_
 refine Qg (ra) ?_;intro Wc ia;refine Te ?_;refine Dd (ra) rfl rfl rfl rfl (fun _ _ _ h=>h) (fun _=>by go_simp <;> rfl) (fun w' hR=>HMu.out _) ?_
 refine zPU ?_;refine Te ?_;refine Dd (ra) rfl rfl rfl rfl (fun _ _ _ h=>h) (fun _=>by go_simp <;> rfl) (fun w' hR=>HA0.out _) ?_
 refine zPU ?_;refine Te ?_;refine jo rfl rfl rfl rfl ?_;intro wh Kd;replace ia:=(ra).trans _ _ _ ia Kd;go_simp;refine ⟨fun _=>(Ca _ _).alloc zR _,?_⟩
 replace kr:=kr.drew.below ia kr.lt;replace kf:=kf.drew.below ia kf.lt;replace da:=pa da.drew ia;have hsw:w.1.size+1<wh.1.size:=kf.lt;have ma:=(Ca wh.1.size wh).alloc zR (.cells #[vd vn 0,vd vn 0,vd vn 0] 298);have ks:=Blk.new wh 298 #[vd vn 0,vd vn 0,vd vn 0];replace kr:=ja kr ma;replace kf:=ja kf ma;replace da:=pa da ma;clear ia ma cf lf ib Kd
 refine zPU ?_
 generalize wh.alloc _=w2 at kr kf da ks |-;generalize wh.1.size=g at ks hsw |-;have ia:=ra.refl w2;refine jo rfl rfl rfl rfl ?_;intro wh Kd;replace ia:=(ra).trans _ _ _ ia Kd;replace kr:=ja kr ia;replace kf:=ja kf ia;replace ks:=ja ks ia;replace da:=pa da ia;have c2:=ks.cell;have f2:=ks.frozen;go_simp;refine ⟨fun h=>Bool.noConfusion h,?_⟩
 have hg:=cG (w:=wh) (g:=g) (vd vn 0) (vd vn 0) (vd vn c0);have kz:=bG ks (vd vn 0) (vd vn 0) (vd vn c0);replace kr:=kr.grown hg (fun e=>by have:=Za e;omega)
 replace kf:=kf.grown hg (fun e=>by have:=Za e;omega)
 replace da:=Ff da hg;clear c2 f2 ks hg ia Kd;generalize ((vF wh _ _).setCell _ _).setCell _ _=w4 at kz kr kf da |-;have ks:Blk w4 g 298 (St.mk 0 0 c0).cs:=kz;clear kz;refine Ep rfl ?_;go_wp2_with fail
 go_loopw [9] (fun y wr=>∃ (i:Nat) (q:St),i <= l.length+1 /\ y=vd vq i /\ Blk wr w.1.size 298 #[vd vn 0,vd vn 0,vd vn 0] /\ Blk wr (w.1.size+1) 224 #[vd vn p] /\ Blk wr g 298 q.cs /\ vA w.1.size w wr /\ Hid (tB p (l.drop i) q=fin)) (fun y _=>l.length-(intOf y).toNat)
 case atStart=>exact ⟨0,⟨0,0,c0⟩,by omega,rfl,kr,kf,ks,da,HF.out.symm⟩
 case round =>
  clear kr kf ks da;obtain ⟨i,q,hi,rfl,kr,kf,ks,da,HI⟩:=hrel;obtain ⟨qa,qb,qc⟩:=q;have ot:Blk wr g 298 #[vd vn qa,vd vn qb,vd vn qc]:=ks;replace ks:=ot;clear ot;by_cases Mv:i<l.length
  ·have hx:=uK ta Mv
   obtain ⟨bb,bq,eA,Gb,cl⟩:=Fg (Ra.below da) Mv;have Zb:=zH ta;have UD:=zH Ra;have ax:=zH Mv;have g1:(0:Int)<=i:=by omega
   have g2:(i:Int)<l.length:=by omega
   by_cases Ci:i+1<l.length
   ·obtain ⟨bb2,bq2,eA2,Nz,cl2⟩:=Fg (Ra.below da) Ci
    have HD:=zH (zCy Ci);obtain ⟨i1,hi1e⟩:=zEX (i+1);have e1:(i:Int)+1=(i1:Int):=by omega
    have e2:vq.wrap ((i:Int)+1)=(i1:Int):=by rw [Wt];omega
    have e3:vq.wrap (i1:Int)=i1:=by rw [Wt];omega
    have g4:(0:Int)<=i1:=by omega
    have g3:(i1:Int)<l.length:=by omega
    have Cq:=zH (show i1<l.length by omega)
    have HI1E:=zH hi1e;rw [eA] at eA2;have eA3:=Za eA2
    injection eA3 with e5 e6
    subst e5 e6;subst eA;clear eA2 Nz;have HIF:=zH (show tB p (l.getD i 0 :: l.getD (i+1) 0 :: l.drop (i+2)) ⟨qa,qb,qc⟩=fin by rw [<- HD.out];exact HI.out)
    clear HD ta Ra Ci hx hi1e;obtain ⟨y,hy⟩:=zEX (l.getD (i+1) 0);generalize l.getD i 0=x at *;rw [<- hy] at HIF cl2;have HY:=zH hy.symm;clear hy;have xk:=zH (fun w=>HA.out qa x w)
    have HA2:=zH (fun w=>HA.out qb y w)
    obtain ⟨na,Yz⟩:=zEX ((qa+x)%p);obtain ⟨nb,Qv⟩:=zEX ((qb+y)%p);rw [<- Yz] at xk;rw [<- Qv] at HA2;obtain ⟨z,hz⟩:=zEX (eD p ⟨na,nb,qc⟩);have HX:=zH (show ∀ w,vB prog 300 #[vd vn p,vf #[vd vn na,vd vn nb,vd vn qc]] w fun e w'=>e=vl (vf #[vd vn z.a,vd vn z.b,vd vn z.c]) /\ vA w.1.size w w' from fun w=>by rw [hz];exact HP.out ⟨na,nb,qc⟩ w)
    have HZ:=zH (show tB p (l.drop (i+2)) z=fin by rw [hz];rw [Yz,Qv];exact HIF.out)
    clear hz;clear HIF Yz Qv;have cs:=ks.cell;have ls:=ks.lt;have cf:=kf.cell;have lf:=kf.lt;have cl2H:=zH cl2;clear cl2;go_wp2_with fail
    refine Pg (Ub) (ra) [9] [9] [0,1,2,3,4,5,6,7,8,9] (by kernel_rfl) (by kernel_rfl) ?_
    refine Qg (ra) ?_;intro Wc ia;refine Te ?_;refine Dd (ra) rfl rfl rfl rfl (fun _ _ _ h=>h) (fun _=>by go_simp <;> rfl) (fun w' hR=>xk.out _) ?_
    refine zPU ?_;refine Te ?_;refine jo rfl rfl rfl rfl ?_;intro wh Kd;replace ia:=(ra).trans _ _ _ ia Kd;replace kr:=kr.drew.below ia kr.lt;replace ks:=ks.drew.below ia ks.lt;replace kf:=kf.drew.below ia kf.lt;replace da:=pa da.drew ia;clear cs cf lf ls ia Kd cl;have c2:=ks.cell;have f2:=ks.frozen;go_simp;refine ⟨fun h=>Bool.noConfusion h,?_⟩
    have hg:wh.grownBy (wh.setCell ⟨g,0,vD⟩ (vd vn na)) (vE g):=Wg (p:=⟨g,0,vD⟩) (Ee wh _) (.inl rfl) _;replace ks:=ks.set_ 0 (vd vn na);simp at ks
    replace kr:=kr.grown hg (fun e=>by have:=Za e;omega)
    replace kf:=kf.grown hg (fun e=>by have:=Za e;omega)
    replace da:=Ff da hg;clear hg c2 f2;generalize wh.setCell _ _=Wf0 at ks kr da kf |-;refine Ep rfl ?_;have cl2:Wf0.cell? ⟨bb,bq+i1,vD⟩=vE (vd vn y):=by obtain ⟨b3,q3,e3,-,h3⟩:=Fg (UD.out.below da) Cq.out;have e4:=Za e3;injection e4 with e5 e6;subst e5 e6;rw [h3,HI1E.out,HY.out]
    have Nz:bb<Wf0.1.size:=Jf _ _ cl2;have cs:=ks.cell;have ls:=ks.lt;have cf:=kf.cell;have lf:=kf.lt;go_wp2_with fail
    refine Pg (Ub) (ra) [10] [10] [0,1,2,3,4,5,6,7,8,9,10] (by kernel_rfl) (by kernel_rfl) ?_
    refine Qg (ra) ?_;intro Wc ia;refine Te ?_;refine Dd (ra) rfl rfl rfl rfl (fun _ _ _ h=>h) (fun _=>by go_simp <;> rfl) (fun w' hR=>HA2.out _) ?_
    refine zPU ?_;refine Te ?_;refine jo rfl rfl rfl rfl ?_;intro wh Kd;replace ia:=(ra).trans _ _ _ ia Kd;replace kr:=kr.drew.below ia kr.lt;replace ks:=ks.drew.below ia ks.lt;replace kf:=kf.drew.below ia kf.lt;replace da:=pa da.drew ia;clear cs cf lf ls ia Kd cl2;have c2:=ks.cell;have f2:=ks.frozen;go_simp;refine ⟨fun h=>Bool.noConfusion h,?_⟩
    have hg:wh.grownBy (wh.setCell ⟨g,1,vD⟩ (vd vn nb)) (vE g):=Wg (p:=⟨g,1,vD⟩) (Ee wh _) (.inl rfl) _;replace ks:=ks.set_ 1 (vd vn nb);simp at ks
    replace kr:=kr.grown hg (fun e=>by have:=Za e;omega)
    replace kf:=kf.grown hg (fun e=>by have:=Za e;omega)
    replace da:=Ff da hg;clear hg c2 f2;generalize wh.setCell _ _=Wf1 at ks kr da kf |-;refine Ep rfl ?_;have cs:=ks.cell;go_wp2_with fail
    refine (HX.out _).mono ?_;rintro e w5 ⟨rfl,Ya⟩;replace kr:=ja kr Ya;replace ks:=ja ks Ya;replace kf:=ja kf Ya;replace da:=pa da Ya;clear cs Ya;have cs:=ks.cell;have fs:=ks.frozen;go_wp2_with fail
    have hg:=cG (w:=w5) (g:=g) (vd vn z.a) (vd vn z.b) (vd vn z.c);have kz:=bG ks (vd vn z.a) (vd vn z.b) (vd vn z.c);replace kr:=kr.grown hg (fun e=>by have:=Za e;omega)
    replace kf:=kf.grown hg (fun e=>by have:=Za e;omega)
    replace da:=Ff da hg;clear hg cs fs ks;generalize ((vF w5 _ _).setCell _ _).setCell _ _=Wz at kz kr da kf |-
    go_roundw
    case rel=>exact ⟨i+2,z,by omega,by go_num,kr,kf,kz,da,HZ.out⟩
    case measure=>simp [intOf];omega
   ·have aC:i+1=l.length:=by omega
    have HD:=zH (zCw aC);have g3:¬((i:Int)+1<(l.length:Int)):=by omega
    subst eA;have HIF:=zH (show tB p [l.getD i 0] ⟨qa,qb,qc⟩=fin by rw [<- HD.out];exact HI.out)
    have HDN:=zH (show l.drop (i+2)=[] from List.drop_of_length_le (by omega))
    clear HD ta Ra hx;generalize l.getD i 0=x at *;have xk:=zH (fun w=>HA.out qa x w)
    obtain ⟨na,Yz⟩:=zEX ((qa+x)%p);rw [<- Yz] at xk;obtain ⟨z,hz⟩:=zEX (eD p ⟨na,qb,qc⟩);have HX:=zH (show ∀ w,vB prog 300 #[vd vn p,vf #[vd vn na,vd vn qb,vd vn qc]] w fun e w'=>e=vl (vf #[vd vn z.a,vd vn z.b,vd vn z.c]) /\ vA w.1.size w w' from fun w=>by rw [hz];exact HP.out ⟨na,qb,qc⟩ w)
    have HZ:=zH (show tB p (l.drop (i+2)) z=fin by rw [hz];rw [HDN.out,Yz];exact HIF.out)
    clear hz;clear HIF HDN Ci aC Yz;have cs:=ks.cell;have ls:=ks.lt;have cf:=kf.cell;have lf:=kf.lt;go_wp2_with fail
    refine Pg (Ub) (ra) [9] [9] [0,1,2,3,4,5,6,7,8,9] (by kernel_rfl) (by kernel_rfl) ?_
    refine Qg (ra) ?_;intro Wc ia;refine Te ?_;refine Dd (ra) rfl rfl rfl rfl (fun _ _ _ h=>h) (fun _=>by go_simp <;> rfl) (fun w' hR=>xk.out _) ?_
    refine zPU ?_;refine Te ?_;refine jo rfl rfl rfl rfl ?_;intro wh Kd;replace ia:=(ra).trans _ _ _ ia Kd;replace kr:=kr.drew.below ia kr.lt;replace ks:=ks.drew.below ia ks.lt;replace kf:=kf.drew.below ia kf.lt;replace da:=pa da.drew ia;clear cs cf lf ls ia Kd cl;have c2:=ks.cell;have f2:=ks.frozen;go_simp;refine ⟨fun h=>Bool.noConfusion h,?_⟩
    have hg:wh.grownBy (wh.setCell ⟨g,0,vD⟩ (vd vn na)) (vE g):=Wg (p:=⟨g,0,vD⟩) (Ee wh _) (.inl rfl) _;replace ks:=ks.set_ 0 (vd vn na);simp at ks
    replace kr:=kr.grown hg (fun e=>by have:=Za e;omega)
    replace kf:=kf.grown hg (fun e=>by have:=Za e;omega)
    replace da:=Ff da hg;clear hg c2 f2;generalize wh.setCell _ _=Wf0 at ks kr da kf |-;refine Ep rfl ?_;have cs:=ks.cell;go_wp2_with fail
    refine (HX.out _).mono ?_;rintro e w5 ⟨rfl,Ya⟩;replace kr:=ja kr Ya;replace ks:=ja ks Ya;replace kf:=ja kf Ya;replace da:=pa da Ya;clear cs Ya;have cs:=ks.cell;have fs:=ks.frozen;go_wp2_with fail
    have hg:=cG (w:=w5) (g:=g) (vd vn z.a) (vd vn z.b) (vd vn z.c);have kz:=bG ks (vd vn z.a) (vd vn z.b) (vd vn z.c);replace kr:=kr.grown hg (fun e=>by have:=Za e;omega)
    replace kf:=kf.grown hg (fun e=>by have:=Za e;omega)
    replace da:=Ff da hg;clear hg cs fs ks;generalize ((vF w5 _ _).setCell _ _).setCell _ _=Wz at kz kr da kf |-
    go_roundw
    case rel=>exact ⟨i+2,z,by omega,by go_num,kr,kf,kz,da,HZ.out⟩
    case measure=>simp [intOf];omega
  ·have HQ:=zH (show (⟨qa,qb,qc⟩:St)=fin by have:=HI.out;rw [List.drop_of_length_le (by omega)] at this;exact this)
   have g2:¬((i:Int)<l.length):=by omega
   have cs:=ks.cell;have cr:=kr.cell;have fr:=kr.frozen;clear Ra ta;go_wp2_with fail
   have hg:=cG (w:=wr) (g:=w.1.size) (vd vn qa) (vd vn qb) (vd vn qc);have kz:=bG kr (vd vn qa) (vd vn qb) (vd vn qc);clear cs cr fr kr ks;generalize ((vF wr _ _).setCell _ _).setCell _ _=Wz at hg kz |-;have cz:=kz.cell;exact Tc (v:=vf #[vd vn qa,vd vn qb,vd vn qc]) (by simp [results,results271,go_sem,cz]) rfl ⟨by rw [<- HQ.out];rfl,da.trans (Rp hg da.size zR)⟩
def Qa (n:Nat) (f:Nat -> Nat):Array vx:=((List.range n).map fun k=>vd vn (f k:Int)).toArray
def xf (f:Nat -> Nat) (k v:Nat):Nat -> Nat:=fun i=>if i=k then v else f i
theorem Mf {n k:Nat} (f:Nat -> Nat) (h:k<n):(Qa n f)[k]?=vE (vd vn (f k:Int)):=by simp [Qa,h]
theorem tl {n:Nat} {f g:Nat -> Nat} (h:∀ i,i<n -> f i=g i):Qa n f=Qa n g:=by
 unfold Qa
 congr 1
 exact pz fun i hi=>by rw [h i (Oi.1 hi)]
theorem Oq {n:Nat} (f:Nat -> Nat) (k v:Nat):(Qa n f).setIfInBounds k (vd vn v)=Qa n (xf f k v):=by
 apply Array.ext
 ·simp [Qa]
 ·intro i h1 h2
  simp [Qa] at h1 h2
  rw [Array.getElem_setIfInBounds (by simpa [Qa] using h1)]
  simp only [Qa,xf];split
  ·subst_vars;simp
  ·rename_i Ta
   simp [show ¬i=k from fun e=>Ta e.symm]
theorem wv (n:Nat) (f:Nat -> Nat):Qa n f=(Oa ((List.range n).map f)).toArray:=by simp [Qa,Oa]
theorem IB {w:vw} {g n:Nat} {t:vz} {f:Nat -> Nat} (h:Blk w g t (Qa n f)) (hf:∀ i,i<n -> f i<18446744073709551616) (hn:n <= maxLen):RWd w [ve (vE ⟨g,0,vD⟩) n n] ((List.range n).map f):=by
 rw [wv] at h;have:=WI h (fun x hx=>by
  obtain ⟨i,hi,rfl⟩:=Ed.1 hx;exact hf i (Oi.1 hi)) (by simpa using hn)
 simpa using this
theorem SP {P:Program} {t e:vz} {size bytes:Nat} {z:vx} (E:zq P t e size bytes z) (n:Nat) (hb:bytes*n <= 281474976710656) (hn:(n:Int) <= 9223372036854775807) (w:vw) :
  (Instr.makeSlice t (vd vq n) (vd vq n)).run P w= .ok (ve (vE ⟨w.1.size,0,vD⟩) n n) (w.alloc (.cells (madeCells z.cells (n*size)) e)):=by
 obtain ⟨ht,⟨i,hi,hz,hs,Wl⟩,JI,ib⟩:=E;have:=run_make (P:=P) w t e i z ht hi hz vq vq (n:Int) (n:Int) (by omega) (Int.le_refl _) (by rw [Wl,<- Uf];exact Int.ofNat_le.2 hb) hn
 rw [Bk,hs] at this;exact this
theorem zEn (n:Nat):madeCells (vd vn 0).cells (n*1)=Qa n fun _=>0:=by
 apply Array.toList_inj.1
 rw [show (vd vn 0).cells=#[vd vn 0] from rfl,toList_madeCells_one]
 exact mz (by simp [Qa]) fun i h1 h2=>by simp [Qa]
theorem info_w:(prog.info? 22).map (fun i=>(i.zero,i.size,i.bytes))=vE (vE (vd vn 0),1,8):=by kernel_rfl
theorem Ls:zq prog 28 22 1 8 (vd vn 0):=by
 obtain ⟨i0,hi,Kh,kd,Qe⟩:=info_parts info_w;exact ⟨underlying28,⟨i0,hi,Kh,kd,Qe⟩,rfl,by omega⟩
theorem nw (n:Nat) (hn:n <= 1000000) (w:vw) :
  (Instr.makeSlice 28 (vd vq n) (vd vq n)).run prog w= .ok (ve (vE ⟨w.1.size,0,vD⟩) n n) (w.alloc (.cells (Qa n fun _=>0) 22)):=by
 have:=SP (P:=prog) Ls n (by omega) (by omega) w
 rw [zEn] at this;exact this
def cD (p:Nat) (s:St):Nat -> St
 | 0=>s
 | m+1=>eD p (cD p s m)
def sn (p:Nat) (s:St) (k:Nat):Nat:=(cD p s (k / 2)).at_ (k%2)
theorem UK (f:Nat -> Nat) (n k:Nat):Qa n (xf (fun i=>if i<k then f i else 0) k (f k))=Qa n fun i=>if i<k+1 then f i else 0:=by
 refine tl fun i _=>?_
 simp only [xf];by_cases h:i=k
 ·subst h;rw [Na rfl,Na (by omega)]
 ·rw [ya h]
  by_cases h2:i<k
  ·rw [Na h2,Na (by omega)]
  ·rw [ya h2,ya (by omega)]
theorem zFH (p label:Nat) (A:Option vy) (n c m:Nat) (l:List Nat) (w:vw) (hp:Fb p=true) (hl:RWd w [ve A n c] l) (Ta:0<l.length) (hlen:l.length <= 1000000) (hm:m <= 65536) :
  vB prog 269 #[vd vn p,vd vn label,ve A n c,vd vq m] w fun e w'=>∃ g,e=vl (ve (vE ⟨g,0,vD⟩) m m) /\ w.1.size <= g /\ Blk w' g 22 (Qa m (sn p (Wu p label l))) /\ vA w.1.size w w':=by
 have HV:=zH (fun w=>Qo p w hp)
 have KD:=zH (fun w' (hb:vA w.1.size w w')=>p7 p label A n c l w' hp (Bb hb hl) Ta hlen)
 have HP:=zH (fun s w=>G7 p s w hp)
 have ph:=fun w=>nw m (by omega) w
 have g0:¬((m:Int)<0):=by omega
 have g1:(m:Int) <= 65536:=by omega
 clear hl Ta hlen hp;generalize Wu p label l=s at *;unfold fv at *;go_enter func269,ntmps269
 go_wp2_with fail
 refine (HV.out _).mono ?_;rintro e w1 ⟨rfl,Ia⟩;go_wp2_with fail
 refine (KD.out _ Ia).mono ?_;rintro e w2 ⟨rfl,Ba⟩;have da:=pa Ia Ba;have ev:s.val=vf #[vd vn s.a,vd vn s.b,vd vn s.c]:=rfl;rw [ev];obtain ⟨ks0,kg,Ik,ib⟩:=Eh w2 298 22 #[vd vn s.a,vd vn s.b,vd vn s.c] (Qa m fun _=>0)
 have qe:=da.size;replace da:=pa da Ik;clear ev Ia Ba Ik;generalize hz:Qa m (fun _=>0)=zc at *
 go_upto_region 5 with fail
 generalize (w2.alloc _).alloc _=w3 at ks0 kg da ib |-;generalize w2.1.size=gs at *;clear ib;have ks:Blk w3 gs 298 (cD p s ((0-1) / 2)).cs:=ks0;rw [<- hz,show Qa m (fun _=>0)=Qa m (fun k=>if k<0 then sn p s k else 0) from tl fun i _=>by rw [ya (by omega)]] at kg
 clear hz ks0;go_wp2_with fail
 go_loopw [32] (fun y wr=>∃ i:Nat,i <= m /\ y=vd vq i /\ Blk wr gs 298 (cD p s ((i-1) / 2)).cs /\ Blk wr (gs+1) 22 (Qa m fun k=>if k<i then sn p s k else 0) /\ vA w.1.size w wr) (fun y _=>m-(intOf y).toNat)
 case atStart=>exact ⟨0,Mb _,rfl,ks,kg,da⟩
 case round =>
  clear ks kg da;obtain ⟨i,hi,rfl,ks,kg,da⟩:=hrel;by_cases ta:i<m
  ·have g2:(i:Int)<m:=by omega
   have g3:(0:Int)<=i:=by omega
   obtain ⟨sv,hsv⟩:=zEX (sn p s i);obtain ⟨j,hj⟩:=zEX (i%2);have Tm:j<3:=by omega
   have ej:(i:Int)%2=(j:Int):=by omega
   have ej2:(i:Int).tmod 2=(j:Int):=by rw [Int.tmod_eq_emod_of_nonneg (by omega)];exact ej
   have HSQ:=zH (show (cD p s (i / 2)).at_ j=sv by rw [hj,hsv];rfl)
   have HSV:=zH hsv.symm;clear hsv;rcases (show i=0 \/ i%2=1 \/ (0<i /\ i%2=0) by omega) with h0 | h1 | ⟨h2,h3⟩
   ·have d1:¬((0:Int)<i):=by omega
    have d2:decide ((0:Int)<i)=false:=db d1;rw [show (i-1) / 2=i / 2 by omega] at ks
    have H0:=zH h0;clear h0 hj;have cj:=ks.cell j;rw [St.cs_at _ Tm] at cj;have ci:=kg.cell i;rw [Mf _ ta] at ci;rw [HSQ.out] at cj;have fi:=kg.frozen i;generalize (if i<i then sn p s i else 0)=old at ci
    go_wp2_with fail
    have hg:wr.grownBy (wr.setCell ⟨gs+1,i,vD⟩ (vd vn sv)) (vE (gs+1)):=Wg (p:=⟨gs+1,i,vD⟩) (Ee wr _) (.inl rfl) _;replace kg:=kg.set_ i (vd vn sv);have HN:(Qa m fun k=>if k<i then sn p s k else 0).setIfInBounds i (vd vn sv)=Qa m (fun k=>if k<i+1 then sn p s k else 0):=by rw [Oq,<- HSV.out,UK]
    rw [HN] at kg;replace ks:=ks.grown hg (fun e=>by have:=Za e;omega)
    replace da:=Ff da hg;clear hg fi ci cj
    go_roundw
    case rel=>exact ⟨i+1,by omega,by go_num,by rw [show (i+1-1) / 2=i / 2 by omega];exact ks,kg,da⟩
    case measure=>simp [intOf];omega
   ·have d1:(0:Int)<i:=by omega
    have d3:((j:Int) == 0)=false:=by rw [Gd];omega
    rw [show (i-1) / 2=i / 2 by omega] at ks
    clear h1 hj;have cj:=ks.cell j;rw [St.cs_at _ Tm] at cj;have ci:=kg.cell i;rw [Mf _ ta] at ci;rw [HSQ.out] at cj;have fi:=kg.frozen i;generalize (if i<i then sn p s i else 0)=old at ci
    go_wp2_with fail
    have hg:wr.grownBy (wr.setCell ⟨gs+1,i,vD⟩ (vd vn sv)) (vE (gs+1)):=Wg (p:=⟨gs+1,i,vD⟩) (Ee wr _) (.inl rfl) _;replace kg:=kg.set_ i (vd vn sv);have HN:(Qa m fun k=>if k<i then sn p s k else 0).setIfInBounds i (vd vn sv)=Qa m (fun k=>if k<i+1 then sn p s k else 0):=by rw [Oq,<- HSV.out,UK]
    rw [HN] at kg;replace ks:=ks.grown hg (fun e=>by have:=Za e;omega)
    replace da:=Ff da hg;clear hg fi ci cj
    go_roundw
    case rel=>exact ⟨i+1,by omega,by go_num,by rw [show (i+1-1) / 2=i / 2 by omega];exact ks,kg,da⟩
    case measure=>simp [intOf];omega
   ·have d1:(0:Int)<i:=by omega
    have d3:((j:Int) == 0)=true:=by rw [qi];omega
    obtain ⟨q,hq⟩:=zEX (cD p s ((i-1) / 2));rw [<- hq] at ks;obtain ⟨z,hz⟩:=zEX (eD p q);have HZ:=zH (show cD p s (i / 2)=z by rw [show i / 2=(i-1) / 2+1 by omega,cD,<- hq,hz])
    have HX:=zH (show ∀ w,vB prog 300 #[vd vn p,vf #[vd vn q.a,vd vn q.b,vd vn q.c]] w fun e w'=>e=vl (vf #[vd vn z.a,vd vn z.b,vd vn z.c]) /\ vA w.1.size w w' from fun w=>by rw [hz];exact HP.out q w)
    have ot:Blk wr gs 298 #[vd vn q.a,vd vn q.b,vd vn q.c]:=ks;clear h2 h3 hj hq hz ks;have cs:=ot.cell;go_wp2_with fail
    refine (HX.out _).mono ?_;rintro e w5 ⟨rfl,Ya⟩;replace ot:=ja ot Ya;replace kg:=ja kg Ya;replace da:=pa da Ya;clear cs Ya;have cs:=ot.cell;have fs:=ot.frozen;go_upto_region 10 with fail
    have hg:=cG (w:=w5) (g:=gs) (vd vn z.a) (vd vn z.b) (vd vn z.c);have ks:Blk _ gs 298 z.cs:=bG ot (vd vn z.a) (vd vn z.b) (vd vn z.c);replace kg:=kg.grown hg (fun e=>by have:=Za e;omega)
    replace da:=Ff da hg;clear hg cs fs ot;generalize ((vF w5 _ _).setCell _ _).setCell _ _=W8 at ks kg da |-;rw [<- HZ.out] at ks;have cj:=ks.cell j;rw [St.cs_at _ Tm] at cj;have ci:=kg.cell i;rw [Mf _ ta] at ci;rw [HSQ.out] at cj;have fi:=kg.frozen i;generalize (if i<i then sn p s i else 0)=old at ci
    go_wp2_with fail
    have hg:W8.grownBy (W8.setCell ⟨gs+1,i,vD⟩ (vd vn sv)) (vE (gs+1)):=Wg (p:=⟨gs+1,i,vD⟩) (Ee W8 _) (.inl rfl) _;replace kg:=kg.set_ i (vd vn sv);have HN:(Qa m fun k=>if k<i then sn p s k else 0).setIfInBounds i (vd vn sv)=Qa m (fun k=>if k<i+1 then sn p s k else 0):=by rw [Oq,<- HSV.out,UK]
    rw [HN] at kg;replace ks:=ks.grown hg (fun e=>by have:=Za e;omega)
    replace da:=Ff da hg;clear hg fi ci cj
    go_roundw
    case rel=>exact ⟨i+1,by omega,by go_num,by rw [show (i+1-1) / 2=i / 2 by omega];exact ks,kg,da⟩
    case measure=>simp [intOf];omega
  ·obtain rfl:i=m:=by omega
   rw [show Qa i (fun k=>if k<i then sn p s k else 0)=Qa i (sn p s) from tl fun k hk=>by rw [Na hk]] at kg
   go_wp2;go_ret
   exact ⟨gs+1,rfl,by omega,kg,da⟩
theorem LM {w w':vw} {base B:Nat} {e:vz} {size:Nat} {v:vx} {n:Nat} {xs:List vx} (h:w.ownsRow base e size v n xs) (hg:w.grownBy w' (vE B)) (hB:B<base):w'.ownsRow base e size v n xs:=by
 obtain ⟨h1,h2⟩:=h;refine ⟨h1,?_⟩;rcases h2 with h2 | ⟨g,cap,cur,hv,Lk,hh,r⟩
 ·exact Or.inl h2
 ·exact Or.inr ⟨g,cap,cur,hv,Lk,by rw [hg.block g (Nt.1 hh).1 (fun e=>by have:=Za e;omega)];exact hh,r⟩
theorem zGJ (f:Nat -> Nat) (i:Nat):(List.range i).map f++[f i]=(List.range (i+1)).map f:=by simp [List.range_succ]
def pW (rows:List Ua):Prop:=∀ r∈rows,r.a.length <= 100000 /\ r.b.length <= 100000 /\ r.c.length <= 100000
def pG (rows:List Ua):Nat:=(rows.map fun r=>r.a.length+r.b.length+r.c.length).sum
def bH (rows:List Ua):Prop:=pW rows -> rows.length+pG rows <= 400
def SmallB (rows:List Ua) (e:Ending):Prop:=∃ b,e=vl (.bool b) /\ (b=true -> bH rows)
theorem zHS (rows:List Ua) {j:Nat} (h:j<rows.length):pG (rows.take (j+1))=pG (rows.take j)+(rows[j].a.length+rows[j].b.length+rows[j].c.length):=by
 unfold pG;rw [Su h,List.map_append,List.sum_append];simp
theorem RLin.open_ {w:vw} {v:vx} {l:List (Int × Nat)} (h:RLin w [v] l):∃ A n c,v=ve A n c /\ n <= maxLen /\ l.length=n:=by
 obtain ⟨A,n,c,e,h0,h1,h2,-⟩:=h;simp at e
 exact ⟨A,n,c,e,by omega,h0⟩
theorem zGH (p:Nat) (pub vars:Int) (A:Option vy) (n c:Nat) (rows:List Ua) (w:vw) (hr:RSl 3 Ud w [ve A n c] rows) :
  vB prog 89 #[Tb p pub vars (ve A n c)] w fun e w'=>SmallB rows e /\ vA w.1.size w w':=by
 obtain ⟨A',n',c',he,hlen,Ld,Ef,Ra⟩:=hr;simp at he
 obtain ⟨rfl,rfl,rfl⟩:=he;subst hlen;unfold Tb;have gm:(rows.length:Int) <= 9223372036854775807:=by
  have h3:=Ld;have h4:=Ef;simp [maxLen] at h4
  omega
 obtain ⟨w0,Vn⟩:=zEX (w.alloc (.cells #[vd vn p,vd vq pub,vd vq vars,ve A rows.length c] 25));have da:vA w.1.size w w0:=by rw [Vn];exact (Ca _ w).alloc zR _
 have hB:Blk w0 w.1.size 25 #[vd vn p,vd vq pub,vd vq vars,ve A rows.length c]:=by rw [Vn];exact Blk.new w _ _
 go_enter func89,ntmps89
 go_wp2_with fail
 rw [<- Vn];have HW:=zH Vn;clear Vn;go_loopw [3,4] (fun s i wr=>∃ (j kk:Nat) (t:Int),j <= rows.length /\ i=vd vq j /\ s=vd vq t /\ wr=w0.drewN kk /\ Hid (pW rows -> t=(rows.length:Int)+(pG (rows.take j):Int)))
  (fun _ i _=>rows.length-(intOf i).toNat)
 case atStart=>exact ⟨0,0,rows.length,Mb _,rfl,rfl,rfl,fun _=>by simp [pG]⟩
 case round =>
  obtain ⟨j,kk,t,hj,rfl,rfl,rfl,HT⟩:=hrel;have s3:(w0.drewN kk).cell? ⟨w.1.size,3,vD⟩=vE (ve A rows.length c):=(hB.drewN kk).cell 3;by_cases ta:j<rows.length
  ·by_cases z1:t <= 400
   ·have d1:=tb z1
    obtain ⟨b,q,rfl⟩:=Ra.base (by omega) (by omega)
    obtain ⟨cs,-,hc,x,y,z,rfl,Zc,Ge,kd⟩:=(Ra.below Bg (Ds da kk)).get ta;obtain ⟨A1,n1,c1,rfl,m1,u1⟩:=RLin.open_ Zc;obtain ⟨A2,n2,c2,rfl,m2,u2⟩:=RLin.open_ Ge;obtain ⟨A3,n3,c3,rfl,m3,u3⟩:=RLin.open_ kd;have HU:=zH (And.intro ta (And.intro u1 (And.intro u2 u3)));clear u1 u2 u3;have h0:(w0.drewN kk).cell? ⟨b,q+j*3,vD⟩=vE _:=hc 0 (by omega)
    have h1:(w0.drewN kk).cell? ⟨b,q+j*3+1,vD⟩=vE _:=hc 1 (by omega)
    have h2:(w0.drewN kk).cell? ⟨b,q+j*3+2,vD⟩=vE _:=hc 2 (by omega)
    have i1:(0:Int)<=j:=by omega
    have i2:(j:Int)<rows.length:=by omega
    simp [maxLen] at m1 m2 m3 h0 h1 h2
    clear hc Zc Ge kd;simp at s3
    go_wp2_with fail
    go_quiet (fail)
    go_wp2
    go_roundw
    case rel =>
     refine ⟨j+1,_,_,by omega,by go_num,rfl,rfl,fun hs=>?_⟩
     obtain ⟨hl,u1,u2,u3⟩:=HU.out;have h1:=HT.out hs;have h2:=hs rows[j] (zf hl);rw [zHS rows hl];unfold wrap64;omega
    case measure=>simp [intOf];omega
   ·have d1:=db z1
    go_wp2;go_ret
    exact ⟨⟨_,rfl,fun h=>by simp at h⟩,Ds da _⟩
  ·obtain rfl:j=rows.length:=by omega
   go_wp2;go_ret
   refine ⟨⟨_,rfl,fun h hs=>?_⟩,Ds da _⟩
   have h1:=HT.out hs;rw [Zr] at h1;simp at h
   omega
theorem zC4 (n:Nat) (w:vw) (hn:n <= 4096) :
  vB prog 154 #[vd vq n] w fun e w'=>∃ k,e=vl (vd vq ((2^k:Nat):Int)) /\ n <= 2^k /\ 2^k <= 2*n+1 /\ (1 <= n -> 2^k<2*n) /\ w'=w:=by
 go_enter func154,ntmps154
 go_wp2_with fail
 go_loopw [3] (fun i wr=>∃ (k m:Nat),i=vd vq m /\ Hid (m=2^k) /\ 0<m /\ m <= 2*n+1 /\ Hid (1 <= n -> m<2*n) /\ wr=w)
  (fun i _=>2*n+1-(intOf i).toNat)
 case atStart=>exact ⟨0,1,rfl,rfl,by omega,by omega,(fun _=>by omega),by simp⟩
 case round =>
  obtain ⟨k,m,rfl,HM,jF,Un,HL,rfl⟩:=hrel;by_cases ta:m<n
  ·go_wp2
   go_roundw
   case rel =>
    refine ⟨k+1,2*m,by go_num,?_,by omega,by omega,(fun _=>by omega),by simp⟩
    show 2*m=2^(k+1)
    rw [HM.out,If,ze]
   case measure=>simp [intOf];omega
  ·go_wp2
   go_ret
   refine ⟨k,?_,?_,?_,?_,rfl⟩
   ·rw [<- HM.out];rfl
   ·rw [<- HM.out];omega
   ·rw [<- HM.out];omega
   ·rw [<- HM.out];exact HL.out
structure Ma where
 p:Nat
 block:Nat
 queries:Nat
 k:Nat
 n:Nat
 secret:Nat
 rows:Nat
 a:Nat
 b:Nat
def jb (l:Ma):Array vx:=#[vd vn l.p,vd vq l.block,vd vq l.queries,vd vq l.k,vd vq l.n,vd vq l.secret,vd vq l.rows,vd vq l.a,vd vq l.b,vd vq l.b,vd vq l.b]
def Yf:Array vx:=#[vd vn 0,vd vq 0,vd vq 0,vd vq 0,vd vq 0,vd vq 0,vd vq 0,vd vq 0,vd vq 0,vd vq 0,vd vq 0]
structure Lb (l:Ma):Prop where
 p:Fb l.p=true
 b1:2 <= l.block
 b2:l.block <= 256
 q1:1 <= l.queries
 q2:l.queries <= 64
 k:l.k=l.block+l.queries
 n:∃ j,l.n=2^j
 n2:l.n <= 1024
 s:l.secret <= 65536
 r:l.rows <= 16384
 a:l.a <= 100000
 b:l.b <= 100000
 bj:l.block &&& (l.block-1)=0
 bd:(l.p-1)%l.block=0
 nd:(l.p-1)%l.n=0
 nl:l.n<l.p-1
 nk:2*l.k <= l.n
 ae:l.a=(l.secret+l.block-1) / l.block
 be:l.b=(l.rows+l.block-1) / l.block
def Ro (n:Nat):Nat:=2^((n-1).log2+1)
theorem zC1 {n m:Nat} (hn:2 <= n) (h:∃ k,m=2^k) (h1:n <= m) (h2:m<2*n):m=Ro n:=by
 obtain ⟨k,rfl⟩:=h;cases k with
 | zero=>simp at h1;omega
 | succ k =>
  unfold Ro;rw [If] at h1 h2;have:(n-1).log2=k:=(Nat.log2_eq_iff (by omega)).2 ⟨by omega,by rw [If];omega⟩
  rw [this]
structure NewIn where
 p:Nat
 pub:Int
 vars:Int
 nr:Nat
 bl:Int
 bw:Int
 qs:Int
def NewIn.n (x:NewIn):Nat:=x.bw.toNat*Ro (2*(x.bl.toNat+x.qs.toNat))
def qw (x:NewIn):Int :=
 if x.bl<2 \/ 256<x.bl \/ x.bl.toNat &&& (x.bl.toNat-1)≠0 \/ x.qs<1 \/ 64<x.qs \/ (x.bw≠1 /\ x.bw≠2 /\ x.bw≠4 /\ x.bw≠8) then 1
 else if (x.p-1)%x.bl.toNat≠0 \/ (x.p-1)%x.n≠0 \/ x.p-1 <= x.n then 7
 else if 1024<x.n then 3 else 0
def ZP (x:NewIn):Ma:=⟨x.p,x.bl.toNat,x.qs.toNat,x.bl.toNat+x.qs.toNat,x.n,(x.vars-1-x.pub).toNat,x.nr,((x.vars-1-x.pub).toNat+x.bl.toNat-1) / x.bl.toNat,(x.nr+x.bl.toNat-1) / x.bl.toNat⟩
structure mi (L:Ma) (x:NewIn):Prop where
 p:L.p=x.p
 eq:L=ZP x
 err:qw x=0
 pub:0 <= x.pub
 vars:x.pub<x.vars
theorem zAq {w w1:vw} {t1 t2 t3:vz} {je Lf Pj:Array vx} (hb:vA (((w.alloc (.cells je t1)).alloc (.cells Lf t2)).alloc (.cells Pj t3)).1.size (((w.alloc (.cells je t1)).alloc (.cells Lf t2)).alloc (.cells Pj t3)) w1) :
  Blk w1 w.1.size t1 je /\ Blk w1 (w.1.size+1) t2 Lf /\ Blk w1 (w.1.size+1+1) t3 Pj /\ vA w.1.size w w1:=by
 refine ⟨(((Blk.new w t1 je).alloc _).alloc _).below hb (by simp;omega),?_,?_,pa ((((Ca _ w).alloc zR _).alloc (by simp) _).alloc (by simp;omega) _) hb⟩
 ·have:=((Blk.new (w.alloc (.cells je t1)) t2 Lf).alloc (.cells Pj t3)).below hb (by simp)
  simpa using this
 ·have:=(Blk.new ((w.alloc (.cells je t1)).alloc (.cells Lf t2)) t3 Pj).below hb (by simp)
  simpa using this
section
variable {w w0:vw} {g B:Nat} {t:vz} {cs:Array vx}
theorem zHr {y0 y1 y2 y3 y4 y5 y6 y7 y8 y9 Xd:vx} (k:Blk w g t #[y0,y1,y2,y3,y4,y5,y6,y7,y8,y9,Xd]) (x0 x1 x2 x3 x4 x5 x6 x7 x8 x9 mo:vx) :
  Blk (((((((((((w.setCell ⟨g,0,vD⟩ x0).setCell ⟨g,1,vD⟩ x1).setCell ⟨g,2,vD⟩ x2).setCell ⟨g,3,vD⟩ x3).setCell ⟨g,4,vD⟩ x4).setCell ⟨g,5,vD⟩ x5).setCell ⟨g,6,vD⟩ x6).setCell ⟨g,7,vD⟩ x7).setCell ⟨g,8,vD⟩ x8).setCell ⟨g,9,vD⟩ x9).setCell ⟨g,10,vD⟩ mo) g t #[x0,x1,x2,x3,x4,x5,x6,x7,x8,x9,mo]:=by
 have h:=((((((((((k.set_ 0 x0).set_ 1 x1).set_ 2 x2).set_ 3 x3).set_ 4 x4).set_ 5 x5).set_ 6 x6).set_ 7 x7).set_ 8 x8).set_ 9 x9).set_ 10 mo
 simpa using h
theorem zHq (h:vA B w0 w) (hg:B <= g) (x0 x1 x2 x3 x4 x5 x6 x7 x8 x9 mo:vx) :
  vA B w0 (((((((((((w.setCell ⟨g,0,vD⟩ x0).setCell ⟨g,1,vD⟩ x1).setCell ⟨g,2,vD⟩ x2).setCell ⟨g,3,vD⟩ x3).setCell ⟨g,4,vD⟩ x4).setCell ⟨g,5,vD⟩ x5).setCell ⟨g,6,vD⟩ x6).setCell ⟨g,7,vD⟩ x7).setCell ⟨g,8,vD⟩ x8).setCell ⟨g,9,vD⟩ x9).setCell ⟨g,10,vD⟩ mo) :=
 ((((((((((h.setCell hg x0).setCell hg x1).setCell hg x2).setCell hg x3).setCell hg x4).setCell hg x5).setCell hg x6).setCell hg x7).setCell hg x8).setCell hg x9).setCell hg mo
theorem qD {y0 y1 y2 y3 y4 y5 y6 y7 y8 y9 Xd:vx} (k:Blk w g t #[y0,y1,y2,y3,y4,y5,y6,y7,y8,y9,Xd]) (h:vA B w0 w) (x0 x1 x2 x3 x4 x5 x6 x7 x8 x9 mo:Int) (hg:B <= g:=by omega):∃ wf,(((((((((((w.setCell ⟨g,0,vD⟩ (vd vn x0)).setCell ⟨g,1,vD⟩ (vd vq x1)).setCell ⟨g,2,vD⟩ (vd vq x2)).setCell ⟨g,3,vD⟩ (vd vq x3)).setCell ⟨g,4,vD⟩ (vd vq x4)).setCell ⟨g,5,vD⟩ (vd vq x5)).setCell ⟨g,6,vD⟩ (vd vq x6)).setCell ⟨g,7,vD⟩ (vd vq x7)).setCell ⟨g,8,vD⟩ (vd vq x8)).setCell ⟨g,9,vD⟩ (vd vq x9)).setCell ⟨g,10,vD⟩ (vd vq mo))=wf /\ Blk wf g t #[vd vn x0,vd vq x1,vd vq x2,vd vq x3,vd vq x4,vd vq x5,vd vq x6,vd vq x7,vd vq x8,vd vq x9,vd vq mo] /\ vA B w0 wf :=
 ⟨_,rfl,zHr k _ _ _ _ _ _ _ _ _ _ _,zHq h hg _ _ _ _ _ _ _ _ _ _ _⟩
theorem Gt {y0 y1 y2 y3 y4 y5 y6 y7 y8 y9 Xd:vx} (k:Blk w g t #[y0,y1,y2,y3,y4,y5,y6,y7,y8,y9,Xd]) (h:vA B w0 w) (hg:B <= g:=by omega):type_of% (qD k h 0 0 0 0 0 0 0 0 0 0 0 hg):=qD k h 0 0 0 0 0 0 0 0 0 0 0 hg
theorem PQ {y0 y1 y2 y3 y4 y5 y6 y7 y8 y9 Xd:vx} (k:Blk w g t #[y0,y1,y2,y3,y4,y5,y6,y7,y8,y9,Xd]) (h:vA B w0 w) (L:Ma) (hg:B <= g:=by omega):type_of% (qD k h L.p L.block L.queries L.k L.n L.secret L.rows L.a L.b L.b L.b hg):=qD k h L.p L.block L.queries L.k L.n L.secret L.rows L.a L.b L.b L.b hg
end
theorem QN:∀ b:Fin 257,2 <= b.val -> bits .and vq (b.val:Int) ((b.val:Int)-1)=((b.val &&& (b.val-1):Nat):Int):=by decide +kernel
section
variable (p:Nat) (pub vars:Int) (A:Option vy) (n c:Nat) (rows:List Ua) (bl bw qs:Int) (w:vw)
def iq:Array vx:=#[Tb p pub vars (ve A n c),vf #[vd vq bl,vd vq bw,vd vq qs]]
end
theorem zGC (p:Nat) (pub vars:Int) (A:Option vy) (n c:Nat) (rows:List Ua) (bl bw qs:Int) (w:vw) (hr:RSl 3 Ud w [ve A n c] rows) (ht:Nc p pub vars rows=true)
  (h:bl<2 \/ 256<bl \/ bl.toNat &&& (bl.toNat-1)≠0 \/ qs<1 \/ 64<qs \/ (bw≠1 /\ bw≠2 /\ bw≠4 /\ bw≠8)) :
  vB prog 73 (iq p pub vars A n c bl bw qs) w fun e w'=>e=vl (.tuple #[vf Yf,vd vq 1]) /\ vA w.1.size w w':=by
 have Xa:=oG ht;have hp:=(Pb Xa).2;have HV:=zH (fun w' (hb:vA w.1.size w w')=>WM p pub vars A n c rows w' (Dg Bg _ _ _ _ hb hr) hp)
 rw [ht] at HV;clear ht Xa hp;obtain ⟨A',n',c',he,hlen,-,-,-⟩:=hr;simp at he
 obtain ⟨rfl,rfl,rfl⟩:=he;subst hlen;unfold iq Tb;have da:vA w.1.size w (((w.alloc (.cells #[vd vn p,vd vq pub,vd vq vars,ve A rows.length c] 25)).alloc (.cells #[vd vq bl,vd vq bw,vd vq qs] 27)).alloc (.cells Yf 35)):=(((Ca _ w).alloc zR _).alloc (by simp) _).alloc (by simp;omega) _
 unfold Yf at da;have key:decide (bl<2)=true \/ decide (bl<2)=false /\ (decide (256<bl)=true \/ decide (256<bl)=false /\ ∃ b:Nat,bl=b /\ (1:Int) <= b /\ (b:Int) <= 256 /\ (0:Int)<=b-1 /\ ∃ r:Nat,bits .and vq (b:Int) ((b:Int)-1)=(r:Int) /\ (((r:Int) != 0)=true \/ r=0 /\ (decide (qs<1)=true \/ decide (qs<1)=false /\ (decide (64<qs)=true \/ decide (64<qs)=false /\ (bw != 1)=true /\ (bw != 2)=true /\ (bw != 4)=true /\ (bw != 8)=true)))):=by
  by_cases h0:bl<2
  ·exact .inl (tb h0)
  refine .inr ⟨db h0,?_⟩;by_cases h1:256<bl
  ·exact .inl (tb h1)
  refine .inr ⟨db h1,?_⟩;obtain ⟨b,rfl⟩:=Zk (show 0 <= bl by omega)
  rw [Bk] at h;refine ⟨b,rfl,by omega,by omega,by omega,_,QN ⟨b,by omega⟩ (by show 2 <= b;omega),?_⟩
  by_cases h2:b &&& (b-1)=0
  ·refine .inr ⟨h2,?_⟩
   by_cases h3:qs<1
   ·exact .inl (tb h3)
   refine .inr ⟨db h3,?_⟩;by_cases h4:64<qs
   ·exact .inl (tb h4)
   refine .inr ⟨db h4,?_⟩;simp only [Bf];omega
  ·exact .inl (by rw [Bf];exact fun e=>h2 (Int.ofNat.inj e))
 clear h;rcases key with d1 | ⟨d1,d2 | ⟨d2,b,rfl,i1,i3,i2,r,hand,d3 | ⟨rfl,d4 | ⟨d4,d5 | ⟨d5,e1,e2,e4,e8⟩⟩⟩⟩⟩
 all_goals
  go_enter func73,ntmps73
  go_wp2_with (go_at_call 110;refine (HV.out _ da).mono ?_;rintro e w1 ⟨rfl,hb⟩;obtain ⟨k2,k3,k4,Jb⟩:=zAq hb;have p0:w1.cell? ⟨w.1.size+1,0,vD⟩=vE (vd vq _):=k3.cell 0;have p1:w1.cell? ⟨w.1.size+1,1,vD⟩=vE (vd vq bw):=k3.cell 1;have p2:w1.cell? ⟨w.1.size+1,2,vD⟩=vE (vd vq qs):=k3.cell 2;have c4:=k4.cell;have f4:=k4.frozen;unfold Yf at c4;clear hb)
  obtain ⟨wf,Sb,kW,hW⟩:=Gt k4 Jb;rw [Sb];clear Sb c4 f4 p0 p1 p2 k2 k3 k4;have c4:=kW.cell;exact Tc (v:=.tuple #[vf Yf,vd vq 1]) (by simp [results,results73,go_sem,c4,Yf]) rfl ⟨rfl,hW⟩
def zb:Nat:=18446744069414584321
theorem eQ:Fb zb=true:=by decide
def uH (x:Nat) (r:List Nat) (k:Nat):Nat:=sn zb (Wu zb 22 (x%zb :: r)) k
theorem C7 (x:Nat) (r:List Nat) (m g:Nat) (w:vw) (kg:Blk w g 22 (Oa (x :: r)).toArray) (hx:∀ y∈x :: r,y<18446744073709551616) (hr:r.length <= 1000) (hm:m <= 65536) :
  vB prog 199 #[vd vq m,ve (vE ⟨g,0,vD⟩) (r.length+1) (r.length+1)] w fun e w'=>∃ g',e=vl (ve (vE ⟨g',0,vD⟩) m m) /\ w.1.size <= g' /\ Blk w' g' 22 (Qa m (uH x r)) /\ w.grownBy w' (vE g):=by
 have HR:=zH (fun w=>BH zb x w eQ)
 have hq:x%zb<18446744073709551616:=Nat.lt_of_le_of_lt (Nat.mod_le _ _) (hx x (by simp))
 obtain ⟨y,hy⟩:=zEX (x%zb);have HD:=zH (show uH x r=sn zb (Wu zb 22 (y :: r)) by rw [hy];rfl)
 rw [<- hy] at HR hq;rw [HD.out];have HS:=zH (fun w (k:Blk w g 22 (Oa (y :: r)).toArray)=>zFH zb 22 (vE ⟨g,0,vD⟩) (y :: r).length (y :: r).length m (y :: r) w eQ (WI k (fun z hz=>by
  rcases Dh.1 hz with rfl | h
  ·exact hq
  ·exact hx z (by simp [h])) (by simp [maxLen];omega)) (by simp) (by simp;omega) hm)
 have ig:=zH (show (Oa (x :: r)).toArray.setIfInBounds 0 (vd vn y)=(Oa (y :: r)).toArray by simp [Oa])
 have Lg:w.cell? ⟨g,0,vD⟩=vE (vd vn x):=by rw [kg.cell];simp [Oa]
 have n1:(0:Int)<((r.length+1:Nat):Int):=by omega
 have n2:0<r.length+1:=by omega
 simp only [xg] at HS;clear hy hq hx HD;generalize r.length+1=n at *;generalize sn zb (Wu zb 22 (y :: r))=fs at *;unfold zb fv at *;have lg:=kg.lt;go_enter func199,ntmps199
 go_wp2_with fail
 refine (HR.out _).mono ?_;rintro e w1 ⟨rfl,Ia⟩;replace kg:=kg.below Ia lg;have td:w1.cell? ⟨g,0,vD⟩=vE (vd vn x):=(Below.cell Ia lg).trans Lg;have f1:=kg.frozen 0;clear Lg;go_upto_region 2 with fail
 have hg:w1.grownBy (w1.setCell ⟨g,0,vD⟩ (vd vn y)) (vE g):=Wg (p:=⟨g,0,vD⟩) (Ee w1 _) (.inl rfl) _;replace kg:=kg.set_ 0 (vd vn y);rw [ig.out] at kg;have Va:=Pq (Nf (Ee w (vE g)) Ia zR) hg (fun _ e=>.inl e)
 have Bd:=Va.size;clear hg f1 td Ia;generalize w1.setCell _ _=w2 at kg Va Bd |-;go_wp2_with fail
 refine (HS.out _ kg).mono ?_;rintro e w3 ⟨g',rfl,Sm,Ye,Sa⟩;go_wp2;go_ret
 exact ⟨g',rfl,by omega,Ye,Nf Va Sa Bd⟩
theorem Vk (x:Int) (h1:-9223372036854775808 <= x) (h2:x <= 9223372036854775807):vq.wrap x=x:=by rw [Wt];omega
theorem ye (x:Int) (a:-9223372036854775808 <= x:=by omega) (b:x <= 9223372036854775807:=by omega):vq.wrap x=x:=Vk x a b
theorem zC8 (n:Nat) (w:vw) (hn:n <= 4096):vB prog 154 #[vd vq n] w fun e w'=>∃ m,((∃ k,m=2^k) /\ n <= m /\ (1 <= n -> m<2*n)) /\ m <= 2*n+1 /\ e=vl (vd vq m) /\ w'=w :=
 (zC4 n w hn).mono fun _ _ ⟨k,he,hl,hm,hs,hw⟩=>⟨2^k,⟨⟨k,rfl⟩,hl,hs⟩,hm,he,hw⟩
def eE (x:NewIn) (e:Ending):Prop:=∃ (lcs:Array vx) (er:Int),e=vl (.tuple #[vf lcs,vd vq er]) /\ ((er≠0 /\ lcs=Yf /\ er=qw x) \/ (er=0 /\ ∃ L,Lb L /\ mi L x /\ lcs=jb L))
theorem X5 {p U V nr b q bw pm N NN:Nat} (h0:2 <= b) (h1:b <= 256) (h2:b &&& (b-1)=0) (h3:1 <= q) (h4:q <= 64) (hw:bw=1 \/ bw=2 \/ bw=4 \/ bw=8) (hp:pm=p-1) (hN:(∃ k,N=2^k) /\ 2*(b+q) <= N /\ (1 <= 2*(b+q) -> N<2*(2*(b+q)))) (ti:NN=bw*N) :
  NN=NewIn.n ⟨p,U,V,nr,b,bw,q⟩ /\ qw ⟨p,U,V,nr,b,bw,q⟩=if pm%b≠0 \/ pm%NN≠0 \/ pm <= NN then 7 else if 1024<NN then 3 else 0:=by
 have e:=zC1 (by omega) hN.1 hN.2.1 (hN.2.2 (by omega))
 have e2:NN=NewIn.n ⟨p,U,V,nr,b,bw,q⟩:=by
  show NN=(bw:Int).toNat*Ro (2*((b:Int).toNat+(q:Int).toNat))
  rw [ti,e]
  rfl
 refine ⟨e2,?_⟩;unfold qw;rw [<- e2,ya]
 ·simp only [Bk,hp]
 ·simp only [Bk]
  omega
theorem zGD (p U V:Nat) (A:Option vy) (n c:Nat) (rows:List Ua) (b q:Nat) (x:Int) (w:vw) (hr:RSl 3 Ud w [ve A n c] rows) (ht:Nc p U V rows=true)
  (h0:2 <= b) (h1:b <= 256) (h2:b &&& (b-1)=0) (h3:1 <= q) (h4:q <= 64) (hx:x=1 \/ x=2 \/ x=4 \/ x=8) :
  vB prog 73 (iq p U V A n c b x q) w fun e w'=>eE ⟨p,U,V,rows.length,b,x,q⟩ e /\ vA w.1.size w w':=by
 obtain ⟨B,t,Yi,hBt⟩:∃ B t:Nat,((x=1 /\ B=1) \/ (x=2 /\ B=2) \/ (x=4 /\ B=4) \/ (x=8 /\ B=8)) /\ B=2^t:=by
  rcases hx with rfl | rfl | rfl | rfl
  ·exact ⟨1,0,by simp⟩
  ·exact ⟨2,1,by simp⟩
  ·exact ⟨4,2,by simp⟩
  ·exact ⟨8,3,by simp⟩
 obtain ⟨X,hX⟩:∃ X:NewIn,X=⟨p,U,V,rows.length,b,x,q⟩:=⟨_,rfl⟩;rw [<- hX];have HX:=zH hX;have hX2:X=⟨p,U,V,rows.length,b,(B:Int),q⟩:=by rw [hX,show x=(B:Int) by omega]
 clear hX;obtain ⟨f,hf⟩:∃ f:Nat -> Nat,∀ N,f N=B*N:=⟨_,fun _=>rfl⟩
 have Yw:=zH hf;have HBN:=zH (show ∀ N:Nat,x*(N:Int)=((f N:Nat):Int) from fun N=>by rw [hf,Uf,show x=(B:Int) by omega])
 have HBT:=zH hBt;have Xa:=oG ht;obtain ⟨jf,hp⟩:=Pb Xa;have HV:=zH (fun w' (hb:vA w.1.size w w')=>WM p U V A n c rows w' (Dg Bg _ _ _ _ hb hr) hp)
 rw [ht] at HV;have hand:=QN ⟨b,by omega⟩ (by show 2 <= b;omega)
 simp only at hand;rw [h2] at hand;have DI:U<V /\ V <= 65536 /\ rows.length <= 16384:=by
  unfold Nc at ht;simp only [mc,Xk,mu] at ht;omega
 obtain ⟨t1,t2,t3⟩:=DI;obtain ⟨A',n',c',he,hlen,Ld,Ef,-⟩:=hr;simp at he
 obtain ⟨rfl,rfl,rfl⟩:=he;subst hlen;unfold iq Tb;have da:vA w.1.size w (((w.alloc (.cells #[vd vn p,vd vq U,vd vq V,ve A rows.length c] 25)).alloc (.cells #[vd vq b,vd vq x,vd vq q] 27)).alloc (.cells Yf 35)):=(((Ca _ w).alloc zR _).alloc (by simp) _).alloc (by simp;omega) _
 unfold Yf at da;have d1:decide ((b:Int)<2)=false:=db (by omega)
 have d2:decide ((256:Int)<b)=false:=db (by omega)
 have d4:decide ((q:Int)<1)=false:=db (by omega)
 have d5:decide ((64:Int)<q)=false:=db (by omega)
 have i1:(1:Int)<=b:=by omega
 have i2:(0:Int)<=b-1:=by omega
 have i3:(b:Int) <= 256:=by omega
 have i4:(1:Int)<=q:=by omega
 have i5:(q:Int) <= 64:=by omega
 obtain ⟨k,hk⟩:=zEX (b+q);have ek:(b:Int)+q=(k:Int):=by omega
 obtain ⟨s,hs⟩:=zEX (V-1-U);have es:(V:Int)-1-(U:Int)=s:=by omega
 have i6:(V:Int) <= 65536:=by omega
 have i7:(1:Int)<=V:=by omega
 have i8:(k:Int) <= 320:=by omega
 have i9:(0:Int)<=k:=by omega
 obtain ⟨pm,fq⟩:=zEX (p-1);have ep:vn.wrap ((p:Int)-1)=(pm:Int):=by rw [fq];exact Py p 1 (by omega) hp
 have HF:=zH (fun w=>zC8 (2*k) w (by omega))
 have vH:(2:Int)*k=((2*k:Nat):Int):=by omega
 obtain ⟨kk,Ws⟩:=zEX (2*k);rw [<- Ws] at HF vH;have ek3:=ye kk;have j1:kk <= 640:=by omega
 have HB:=zH (And.intro h0 h1);have HQ:=zH (And.intro h3 h4);have HK:=zH hk;have HS:=zH hs;have HT:=zH (And.intro Xa (And.intro t1 (And.intro t2 t3)));have gm:(rows.length:Int) <= 16384:=by omega
 have HP:=zH (show pm=p-1 /\ 17 <= p from ⟨fq,jf⟩)
 have hb256:vn.wrap (b:Int)=b:=Wk b (by omega)
 have HG:Hid (∀ N NN,((∃ k,N=2^k) /\ 2*(b+q) <= N /\ (1 <= 2*(b+q) -> N<2*(2*(b+q)))) -> NN=B*N -> NN=X.n /\ qw X=if pm%b≠0 \/ pm%NN≠0 \/ pm <= NN then 7 else if 1024<NN then 3 else 0):=zH (by rw [hX2];exact fun N NN hN ti=>X5 h0 h1 h2 h3 h4 (by omega) fq hN ti)
 have He:=zH h2;have HKK:=zH (show kk=2*(b+q) by omega)
 clear h0 h1 h2 h3 h4 hk hs Ws Xa hp jf ht t1 t2 t3 fq hX2 hf hBt hx;rcases Yi with ⟨rfl,rfl⟩ | ⟨rfl,rfl⟩ | ⟨rfl,rfl⟩ | ⟨rfl,rfl⟩
 all_goals
  go_enter func73,ntmps73
  go_upto_region 4 with (go_at_call 110;refine (HV.out _ da).mono ?_;rintro e w1 ⟨rfl,hb⟩;obtain ⟨k2,k3,k4,Jb⟩:=zAq hb;have p0:w1.cell? ⟨w.1.size+1,0,vD⟩=vE (vd vq b):=k3.cell 0;have p1:w1.cell? ⟨w.1.size+1,1,vD⟩=vE (vd vq _):=k3.cell 1;have p2:w1.cell? ⟨w.1.size+1,2,vD⟩=vE (vd vq q):=k3.cell 2;have c2:=k2.cell;clear hb)
  have k2l:=k2.alloc (.cells #[vd vn p,vd vq b,vd vq q,vd vq k,vd vq 0,vd vq s,vd vq rows.length,vd vq 0,vd vq 0,vd vq 0,vd vq 0] 35);have k3l:=k3.alloc (.cells #[vd vn p,vd vq b,vd vq q,vd vq k,vd vq 0,vd vq s,vd vq rows.length,vd vq 0,vd vq 0,vd vq 0,vd vq 0] 35);have k4l:=k4.alloc (.cells #[vd vn p,vd vq b,vd vq q,vd vq k,vd vq 0,vd vq s,vd vq rows.length,vd vq 0,vd vq 0,vd vq 0,vd vq 0] 35);have k6:=Blk.new w1 35 #[vd vn p,vd vq b,vd vq q,vd vq k,vd vq 0,vd vq s,vd vq rows.length,vd vq 0,vd vq 0,vd vq 0,vd vq 0];have Gb:=Jb.alloc Jb.size (.cells #[vd vn p,vd vq b,vd vq q,vd vq k,vd vq 0,vd vq s,vd vq rows.length,vd vq 0,vd vq 0,vd vq 0,vd vq 0] 35);have hg:=k4.lt;clear p0 p1 p2 k2 k3 k4 Jb c2;revert k2l k3l k4l k6 Gb
  generalize w1.alloc _=wl;generalize w1.1.size=g at *;intro k2 k3 k4 k6 Gb;have p0:wl.cell? ⟨w.1.size,0,vD⟩=vE (vd vn p):=k2.cell 0;have p1:wl.cell? ⟨w.1.size+1,1,vD⟩=vE (vd vq _):=k3.cell 1;have c6:=k6.cell;have f6:=k6.frozen;have n1:w.1.size+1≠g:=by omega
  have l1:=k3.lt;refine zd (tL g 4) [5,8] [0,1,2,3,4,5,6,7,8] (by kernel_rfl) (by kernel_rfl) ?_
  refine Kw (xr g 4) ?_;intro Wc ia
  repeat ((first | refine xG (xr g 4) rfl rfl (fun _ _ _ h=>h) ?_ | (refine uG (v:=?_) (xr g 4) rfl rfl (fun _ _ _ h=>h) ?_ ?_;rotate_left;(· (intro w' hR;(first | have Rn:=J6 ((xr g 4).trans _ _ _ ia hR) | skip);have Aa:=K6 ((xr g 4).trans _ _ _ ia hR) k6;go_simp;try with_reducible rfl))));refine zPU ?_)
  refine Bc (xr g 4) rfl rfl rfl (fun _=>by go_simp <;> rfl) ((HF.out _).mono ?_)
  rintro e w2 ⟨N,HN,Hk,rfl,rfl⟩;refine ⟨_,rfl,(xr g 4).refl _,?_⟩;replace ia:=(xr g 4).trans _ _ _ ia ((xr g 4).refl _);refine zPU ?_;have Wx:N <= 1281:=by omega
  obtain ⟨NN,ti⟩:=zEX (f N);rw [Yw.out] at ti;have eN2:=ye NN;have eN1:=HBN.out N;rw [Yw.out,<- ti] at eN1
  try simp only [Kn] at eN1
  clear HBN;clear Yw;rw [HKK.out] at HN;replace HG:=zH (HG.out _ _ HN ti);replace HN:=zH HN;replace ti:=zH ti
  repeat ((first | refine xG (xr g 4) rfl rfl (fun _ _ _ h=>h) ?_ | (refine uG (v:=?_) (xr g 4) rfl rfl (fun _ _ _ h=>h) ?_ ?_;rotate_left;(· (intro w' hR;(first | have Rn:=J6 ((xr g 4).trans _ _ _ ia hR) | skip);have Aa:=K6 ((xr g 4).trans _ _ _ ia hR) k6;go_simp;try with_reducible rfl))));refine zPU ?_)
  have hNN2:NN <= 10248:=by omega
  obtain ⟨v,kv⟩:=ia.2 _ _ k6.drew;have cv:=kv.cell;have fv:=kv.frozen;refine ef (xr g 4) rfl rfl rfl ?_;go_simp;refine ⟨L6 _ _,?_⟩;replace ia:=(xr g 4).trans _ _ _ ia (L6 w2 (vd vq NN));replace kv:=kv.set_ 4 (vd vq NN);simp at kv
  refine Jc ?_;have n2:w.1.size+1+1≠g:=by omega
  have jy:w.1.size <= g:=by omega
  have n0:w.1.size≠g:=by omega
  have Lk:=ia.1;have zl:=k2.drew.grown Lk (by simp;omega)
  have k4':=k4.drew.grown Lk (by simp;omega)
  have Qs:=Gb.drew.trans (Es Lk w.1.size (by simp;exact Gb.size) (fun x hx=>by injection hx;omega))
  clear k2 k3 k4 Gb Lk ia p0 p1 c6 f6 cv fv k6 l1 eN2 ek vH ek3 es hand ep i1 i2 d1 d2 d4 d5 j1 hg n0 n1
  try clear eN1
  revert kv zl k4' Qs
  generalize w2.setCell _ _=wl;intro kv k2 k4 Gb;have p0:wl.cell? ⟨w.1.size,0,vD⟩=vE (vd vn p):=k2.cell 0;have c6:=kv.cell;have f6:=kv.frozen;have c4:=k4.cell;have f4:=k4.frozen;have Ti:0<NN:=by
   obtain ⟨⟨z,hz⟩,-⟩:=HN.out;have:0<2^z:=Nat.pow_pos (by omega)
   have:=ti.out;omega
  have ep:vn.wrap ((p:Int)-1)=(pm:Int):=by rw [HP.out.1];exact Py p 1 (by have:=HP.out.2;omega) (Pb HT.out.1).2
  have eN:vn.wrap (NN:Int)=NN:=Wk _ (by omega)
  have q1:(0:Int)<b:=by have:=HB.out;omega
  have q2:¬((b:Int)=0):=by omega
  have q3:¬(b=0):=by omega
  have q4:(0:Int)<NN:=by omega
  have q5:¬((NN:Int)=0):=by omega
  have q6:¬(NN=0):=by omega
  have r1:(pm:Int)%(b:Int)=((pm%b:Nat):Int):=rfl;have r2:(pm:Int)%(NN:Int)=((pm%NN:Nat):Int):=rfl;have r3:(pm:Int).tmod (b:Int)=((pm%b:Nat):Int):=rfl;have r4:(pm:Int).tmod (NN:Int)=((pm%NN:Nat):Int):=rfl;have Ww:Hid (∀ {er:Int},(if pm%b≠0 \/ pm%NN≠0 \/ pm <= NN then (7:Int) else if 1024<NN then 3 else 0)=er -> er=qw X):=fun h=>h.symm.trans (HG.out.2).symm
  obtain ⟨x1,Zc⟩:=zEX (pm%b);obtain ⟨x2,Yi⟩:=zEX (pm%NN);rw [<- Zc] at r1 r3;rw [<- Yi] at r2 r4;have jB:=zH Zc.symm;have Gm:=zH Yi.symm;clear Zc Yi;by_cases z1:x1=0
  ·subst z1
   by_cases z2:x2=0
   ·subst z2
    by_cases z3:pm <= NN
    ·have y1:decide ((pm:Int)<=NN)=true:=tb (by omega)
     have y2:decide (pm <= NN)=true:=tb z3;go_wp2_with fail
     obtain ⟨wf,Sb,kW,hW⟩:=Gt k4 Gb;rw [Sb];clear Sb c4 f4 c6 f6 p0 k4 kv;have c4:=kW.cell;exact Tc (v:=.tuple #[vf Yf,vd vq 7]) (by simp [results,results73,go_sem,c4,Yf]) rfl ⟨⟨_,_,rfl, .inl ⟨by decide,rfl,Ww.out (by rw [Na (.inr (.inr z3))])⟩⟩,hW⟩
    ·have y1:decide ((pm:Int)<=NN)=false:=db (by omega)
     have y2:decide (pm <= NN)=false:=db z3;by_cases z4:1024<NN
     ·have y3:decide ((1024:Int)<NN)=true:=tb (by omega)
      have y4:decide (1024<NN)=true:=tb z4;go_wp2_with fail
      obtain ⟨wf,Sb,kW,hW⟩:=Gt k4 Gb;rw [Sb];clear Sb c4 f4 c6 f6 p0 k4 kv;have c4:=kW.cell;exact Tc (v:=.tuple #[vf Yf,vd vq 3]) (by simp [results,results73,go_sem,c4,Yf]) rfl ⟨⟨_,_,rfl, .inl ⟨by decide,rfl,Ww.out (by rw [ya (by rw [jB.out,Gm.out];omega),Na z4])⟩⟩,hW⟩
     ·have y3:decide ((1024:Int)<NN)=false:=db (by omega)
      have y4:decide (1024<NN)=false:=db z4;have HU:=zH (fun w=>zAy rows.length b w (by have:=HT.out;omega) (by omega) (by omega))
      have zo:=zH (fun w=>zAy s b w (by have:=HT.out;have:=HS.out;omega) (by omega) (by omega))
      have u1:(rows.length+b-1) / b <= 100000:=xb (qz _ _) (by omega)
      have u2:(s+b-1) / b <= 100000:=xb (qz _ _) (by have:=HT.out;have:=HS.out;omega)
      revert HU zo u1 u2
      obtain ⟨ub,FI⟩:=zEX ((rows.length+b-1) / b);obtain ⟨ua,EI⟩:=zEX ((s+b-1) / b);rw [<- FI,<- EI];have HUB:=zH FI;have HUA:=zH EI;clear FI EI;intro HU zo u1 u2;go_wp2_with fail
      refine (HU.out _).mono ?_;rintro e w5 ⟨rfl,rfl⟩;go_wp2_with fail
      refine (zo.out _).mono ?_;rintro e w6 ⟨rfl,rfl⟩;go_wp2_with fail
      have k5:=(((k4.far (p:=⟨g,7,vD⟩) n2 (vd vq ua)).far (p:=⟨g,8,vD⟩) n2 (vd vq ub)).far (p:=⟨g,9,vD⟩) n2 (vd vq ub)).far (p:=⟨g,10,vD⟩) n2 (vd vq ub);have Ya:=(((Gb.setCell (p:=⟨g,7,vD⟩) jy (vd vq ua)).setCell (p:=⟨g,8,vD⟩) jy (vd vq ub)).setCell (p:=⟨g,9,vD⟩) jy (vd vq ub)).setCell (p:=⟨g,10,vD⟩) jy (vd vq ub);obtain ⟨wf,Sb,kW,hW⟩:=qD k5 Ya p b q k NN s rows.length ua ub ub ub;rw [Sb];clear Sb c4 f4 c6 f6 p0 k4 kv k5 Ya;have c4:=kW.cell;have HL:Lb ⟨p,b,q,k,NN,s,rows.length,ua,ub⟩:=by
       have hB:=HB.out;have hQ:=HQ.out;have hT:=HT.out;obtain ⟨⟨z,hz⟩,Qe,-⟩:=HN.out;refine ⟨hT.1,hB.1,hB.2,hQ.1,hQ.2,HK.out,⟨z+t,?_⟩,by show NN <= 1024;omega,by have:=HS.out;show s <= 65536;omega,hT.2.2.2,u2,u1,He.out,?_,?_,?_,?_,HUA.out,HUB.out⟩
       ·show NN=2^(z+t)
        rw [ti.out,hz,Nat.pow_add,<- HBT.out,ze]
       ·show (p-1)%b=0
        rw [<- HP.out.1];exact jB.out
       ·show (p-1)%NN=0
        rw [<- HP.out.1];exact Gm.out
       ·show NN<p-1
        rw [<- HP.out.1];omega
       ·show 2*k <= NN
        have:=ti.out;have:=HK.out;omega
      have Bq:mi ⟨p,b,q,k,NN,s,rows.length,ua,ub⟩ X:=by
       have e1:((V:Int)-1-(U:Int)).toNat=s:=by have:=HS.out;omega
       have e5:=HG.out.1.symm;have e6:=Ww.out (by rw [ya (by rw [jB.out,Gm.out];omega),ya z4])
       rw [HX.out] at e5 e6 |-;refine ⟨rfl,?_,e6.symm,by show (0:Int) <= U;omega,by have:=HT.out;show (U:Int)<V;omega⟩
       unfold ZP;simp only [Bk,e1];rw [e5,HK.out,HUA.out,HUB.out]
      exact Tc (v:=.tuple #[vf (jb ⟨p,b,q,k,NN,s,rows.length,ua,ub⟩),vd vq 0]) (by simp [results,results73,go_sem,c4,jb]) rfl ⟨⟨_,_,rfl, .inr ⟨rfl,_,HL,Bq,rfl⟩⟩,hW⟩
   ·have y1:((x2:Int) != 0)=true:=by rw [Bf];omega
    have y2:(x2 != 0)=true:=by rw [Bf];exact z2
    go_wp2_with fail
    obtain ⟨wf,Sb,kW,hW⟩:=Gt k4 Gb;rw [Sb];clear Sb c4 f4 c6 f6 p0 k4 kv;have c4:=kW.cell;exact Tc (v:=.tuple #[vf Yf,vd vq 7]) (by simp [results,results73,go_sem,c4,Yf]) rfl ⟨⟨_,_,rfl, .inl ⟨by decide,rfl,Ww.out (by rw [Na (.inr (.inl (by rw [Gm.out];exact z2)))])⟩⟩,hW⟩
  ·have y1:((x1:Int) != 0)=true:=by rw [Bf];omega
   have y2:(x1 != 0)=true:=by rw [Bf];exact z1
   go_wp2_with fail
   obtain ⟨wf,Sb,kW,hW⟩:=Gt k4 Gb;rw [Sb];clear Sb c4 f4 c6 f6 p0 k4 kv;have c4:=kW.cell;exact Tc (v:=.tuple #[vf Yf,vd vq 7]) (by simp [results,results73,go_sem,c4,Yf]) rfl ⟨⟨_,_,rfl, .inl ⟨by decide,rfl,Ww.out (by rw [Na (.inl (by rw [jB.out];exact z1))])⟩⟩,hW⟩
def oO (p x:Nat) (r:List Nat) (k:Nat):Nat:=uH x r k%p
def St.lt (p:Nat) (s:St):Prop:=s.a<p /\ s.b<p /\ s.c<p
theorem tV {p:Nat} (hp:0<p) (s:St):(eD p s).lt p:=⟨ic _ hp,ic _ hp,ic _ hp⟩
theorem TR {p:Nat} (hp:0<p):∀ (l:List Nat) (s:St),s.lt p -> (tB p l s).lt p
 | [],_,h=>h
 | [_],_,_=>tV hp _
 | _ :: _ :: r,_,_=>TR hp r _ (tV hp _)
theorem zFY {p:Nat} (hp:0<p) (s:St) (h:s.lt p):∀ m,(cD p s m).lt p
 | 0=>h
 | _+1=>tV hp _
theorem zHB (p label:Nat) (l:List Nat) (k:Nat) (hp:0<p):sn p (Wu p label l) k<p:=by
 have h:=zFY hp _ (TR hp l ⟨0,0,(label*65536%p+l.length)%p⟩ ⟨hp,hp,ic _ hp⟩) (k / 2);show St.at_ _ (k%2)<p
 unfold St.at_;split
 ·exact h.1
 ·split
  ·exact h.2.1
  ·exact h.2.2
theorem sY (L:Ma) (w:vw) (hL:Lb L) :
  vB prog 118 #[vf (jb L)] w fun e w'=>e=vl (vf #[vd vq L.k,vd vq ((L.k+L.block-2:Nat):Int),vd vq ((L.block+2*L.queries-1:Nat):Int)]) /\ vA w.1.size w w':=by
 have h1:=hL.b1;have h2:=hL.b2;have h3:=hL.q1;have h4:=hL.q2;have h5:=hL.k;obtain ⟨x,hx⟩:=zEX (L.k+L.block-2);obtain ⟨y,hy⟩:=zEX (L.block+2*L.queries-1);rw [<- hx,<- hy];have e1:vq.wrap ((L.k:Int)+L.block)=(L.k:Int)+L.block:=Vk _ (by omega) (by omega)
 have e2:vq.wrap ((L.k:Int)+L.block-2)=(x:Int):=by rw [Vk _ (by omega) (by omega)];omega
 have e3:vq.wrap (2*(L.queries:Int))=2*(L.queries:Int):=Vk _ (by omega) (by omega)
 have e4:vq.wrap ((L.block:Int)+2*(L.queries:Int))=(L.block:Int)+2*(L.queries:Int):=Vk _ (by omega) (by omega)
 have e5:vq.wrap ((L.block:Int)+2*(L.queries:Int)-1)=(y:Int):=by rw [Vk _ (by omega) (by omega)];omega
 clear h1 h2 h3 h4 h5 hx hy hL;unfold jb at *;go_enter func118,ntmps118
 go_wp2_with fail
 exact Tc (v:=vf #[vd vq L.k,vd vq x,vd vq y]) (by simp [results,results118,go_sem]) rfl ⟨rfl,((Ca _ w).alloc zR _).alloc (by simp) _⟩
theorem zEj (L:Ma) (x:Nat) (r:List Nat) (m g:Nat) (w:vw) (hp:Fb L.p=true) (kg:Blk w g 22 (Oa (x :: r)).toArray) (hx:∀ y∈x :: r,y<18446744073709551616) (hr:r.length <= 1000) (hm:m <= 65536) :
  vB prog 198 #[vf (jb L),vd vq m,ve (vE ⟨g,0,vD⟩) (r.length+1) (r.length+1)] w fun e w'=>∃ g',e=vl (ve (vE ⟨g',0,vD⟩) m m) /\ w.1.size <= g' /\ Blk w' g' 22 (Qa m (oO L.p x r)) /\ w.grownBy w' (vE g):=by
 have HD:=zH (fun w k=>C7 x r m g w k hx hr hm)
 have HR:=zH (fun n w=>BH L.p n w hp)
 have lg:=kg.lt;obtain ⟨kl,kf,Ik,ib⟩:=Eh w 101 224 (jb L) #[vd vn L.p];have lA:=kg.below Ik lg;have HF:=zH (fun k hk=>Mf (n:=m) (f:=uH x r) (k:=k) hk)
 have hfp:oO L.p x r=fun k=>uH x r k%L.p:=rfl
 rw [hfp];clear hx hr hfp;generalize r.length+1=n at *;generalize uH x r=fs at *;generalize (Oa (x :: r)).toArray=us at *;unfold jb fv at *;generalize L.p=p at *;go_enter func198,ntmps198
 go_wp2_with fail
 generalize (w.alloc _).alloc _=w2 at kf lA Ik ib |-;clear kl kg;refine (HD.out _ lA).mono ?_;rintro e w3 ⟨g',rfl,Sm,Ye,Va⟩;replace kf:=kf.grown Va (fun e=>by have:=Za e;omega)
 replace Va:w.grownBy w3 (vE g):=Pq (Nf (Ee w (vE g)) Ik zR) Va (fun _ e=>.inl e)
 rw [show Qa m fs=Qa m (fun k=>if k<0 then fs k%p else fs k) from tl fun i _=>by rw [ya (by omega)]] at Ye
 clear lA;go_wp2_with fail
 go_loopw [19] (fun y wr=>∃ i:Nat,i <= m /\ y=vd vq i /\ Blk wr (w.1.size+1) 224 #[vd vn p] /\ Blk wr g' 22 (Qa m fun k=>if k<i then fs k%p else fs k) /\ w.grownBy wr (vE g)) (fun y _=>m-(intOf y).toNat)
 case atStart=>exact ⟨0,Mb _,rfl,kf,Ye,Va⟩
 case round =>
  clear kf Ye Va;obtain ⟨i,hi,rfl,kf,Ye,Va⟩:=hrel;by_cases ta:i<m
  ·have g2:(i:Int)<m:=by omega
   have g3:(0:Int)<=i:=by omega
   have ci:=Ye.cell i;rw [Mf _ ta,ya (Nat.lt_irrefl i)] at ci;have cf:=kf.cell;obtain ⟨fi,iI⟩:=zEX (fs i);obtain ⟨z,hz⟩:=zEX (fi%p);have HZ:=zH (show fs i%p=z by rw [<- iI,hz])
   have HX:=zH (fun w=>by have:=HR.out fi w;rw [<- hz] at this;exact this)
   rw [<- iI] at ci;clear iI hz;go_wp2_with fail
   refine (HX.out _).mono ?_;rintro e w5 ⟨rfl,Ya⟩;replace kf:=ja kf Ya;replace Ye:=Ye.below Ya Ye.lt;have kM:w.grownBy w5 (vE g):=Nf Va Ya Va.size;clear ci cf Va Ya;have fi2:=Ye.frozen i;have ci2:=Ye.cell i;rw [Mf _ ta] at ci2;generalize (if i<i then fs i%p else fs i)=old at ci2
   go_wp2_with fail
   have hg:w5.grownBy (w5.setCell ⟨g',i,vD⟩ (vd vn z)) (vE g'):=Wg (p:=⟨g',i,vD⟩) (Ee w5 _) (.inl rfl) _;replace kf:=kf.grown hg (fun e=>by have:=Za e;omega)
   replace Ye:=Ye.set_ i (vd vn z);have HN:(Qa m fun k=>if k<i then fs k%p else fs k).setIfInBounds i (vd vn z)=Qa m (fun k=>if k<i+1 then fs k%p else fs k):=by
    rw [Oq];refine tl fun k _=>?_
    simp only [xf];by_cases h:k=i
    ·subst h;rw [Na rfl,Na (by omega),HZ.out]
    ·rw [ya h]
     by_cases h2:k<i
     ·rw [Na h2,Na (by omega)]
     ·rw [ya h2,ya (by omega)]
   rw [HN] at Ye;have gK:=Pq kM hg (fun b e=>by have:=Za e;subst this;exact .inr (by omega))
   clear kM hg fi2 ci2
   go_roundw
   case rel=>exact ⟨i+1,by omega,by go_num,kf,Ye,gK⟩
   case measure=>simp [intOf];omega
  ·obtain rfl:i=m:=by omega
   rw [show Qa i (fun k=>if k<i then fs k%p else fs k)=Qa i (fun k=>fs k%p) from tl fun k hk=>by rw [Na hk]] at Ye
   go_wp2;go_ret
   exact ⟨g',rfl,by omega,Ye,Va⟩
def Gives (w:vw) (el:vz) (size n:Nat) (xs:List vx) (e:Ending) (w':vw):Prop :=
 ∃ v,e=vl v /\ w'.ownsRow w.1.size el size v n xs /\ vA w.1.size w w'
theorem Gives.then_ {w w1 w2:vw} {v v':vx} {n m:Nat} {xs ys:List vx} (hb:vA w.1.size w w1) (hv:w1.ownsRow w.1.size 5 1 v n xs)
  (Aa:w2.ownsRow w.1.size 5 1 v' m ys) (hg:w1.grownBy w2 v.ownBlock):Gives w 5 1 m ys (vl v') w2 :=
 ⟨v',rfl,Aa,hb.grown hg hb.size fun k hk=>(hv.lt k hk).1⟩
theorem zIj (A:Option vy) (n c:Nat) (x:Int) (xs:List vx) (w:vw) (hr:Rd w 1 A n xs) (h1:∀ u∈xs,u.oneCell'=true) (Pv:-9223372036854775808 <= x) (Lv:x <= 9223372036854775807) (hk:n+4 <= 100000000) :
  vB prog 108 #[ve A n c,vd vq x] w (Gives w 5 1 (n+4) (xs++U8 (Ie (lenOf x) 4))):=by
 go_enter func108,ntmps108
 go_wp2_with (first | (go_at_call 201;refine (WV A n c 4 xs w hr h1 hk).mono ?_;rintro e w1 ⟨v,rfl,hv,hb⟩) | (go_at_call 200;refine (ZX w.1.size _ n x xs w1 hv Pv Lv hk hb.size).mono ?_;rintro e w2 ⟨v2,rfl,ah,hg,hw⟩))
 go_ret
 exact Gives.then_ hb hv ah hg
theorem zIk (A C:Option vy) (n c m d:Nat) (xs:List vx) (l:List Nat) (w:vw) (hr:Rd w 1 A n xs) (h1:∀ u∈xs,u.oneCell'=true) (hs:Rd w 1 C m (Oa l)) (hl:∀ x∈l,x<18446744073709551616) (hk:n+4+8*m <= 100000000) :
  vB prog 107 #[ve A n c,ve C m d] w (Gives w 5 1 (n+4+8*m) (xs++(U8 (Ie m 4)++U8 (l.flatMap fun x=>Ie x 8)))):=by
 have HL:=zH (Y2 (by omega):lenOf (m:Int)=m)
 have HR:=zH (WV A n c (4+8*m) xs w hr h1 (by omega))
 have HT:Hid (((4+8*m:Nat):Int)=4+8*(m:Int)):=by simp [Hid]
 rw [HT.out] at HR;have HM:Hid (l.length=m):=by have:=hs.len1;rw [tt] at this;exact this
 go_enter func107,ntmps107
 go_wp2_with (first | (go_at_call 201;refine HR.out.mono ?_;rintro e w1 ⟨v,rfl,hv,hb⟩) | (go_at_call 200;refine (ZX w.1.size _ n m xs w1 hv (by omega) (by omega) (by omega) hb.size).mono ?_;rintro e w2 ⟨v2,rfl,ah,hg,hw⟩;have Ba:vA w.1.size w w2:=hb.grown hg hb.size fun k hk=>(hv.lt k hk).1))
 rw [HL.out] at ah;go_loopw [5,19] (fun s i wr=>∃ j:Nat,j <= m /\ i=vd vq j /\ wr.ownsRow w.1.size 5 1 s (n+4+8*j) (xs++(U8 (Ie m 4)++U8 ((l.take j).flatMap fun x=>Ie x 8))) /\ vA w.1.size w wr)
  (fun _ i _=>m-(intOf i).toNat)
 case atStart=>exact ⟨0,Mb _,rfl,by simpa [U8] using ah,Ba⟩
 case round =>
  obtain ⟨j,hj,rfl,Aa,Db⟩:=hrel;by_cases ta:j<m
  ·have Yh:j<l.length:=by rw [HM.out];exact ta
   obtain ⟨ad,u,rfl,hu,hc⟩:=(hs.below Db).at_ ta;obtain ⟨y,hy⟩:=zEX (l[j]);have hyl:y<18446744073709551616:=by rw [hy];exact hl _ (zf _)
   rw [yB Yh,<- hy] at hu
   injection hu with hu
   subst hu;have HY:=zH hy;clear hy;go_wp2_with (go_at_call 202;refine (UN w.1.size _ _ y 8 _ _ Aa hyl (by omega) Db.size).mono ?_;rintro e w3 ⟨v3,rfl,ry,Mg,hw3⟩)
   have Sa:vA w.1.size w w3:=Db.grown Mg Db.size fun k hk=>(Aa.lt k hk).1
   clear Aa Mg hw3;go_wp2
   go_roundw
   case rel =>
    refine ⟨j+1,by omega,by go_num,?_,Sa⟩
    rw [Su Yh,<- HY.out,List.flatMap_append,dH,show n+4+8*(j+1)=n+4+8*j+8 from by omega]
    simpa using ry
   case measure=>simp [intOf];omega
  ·go_wp2
   go_ret
   have e:j=m:=by omega
   subst e;rw [WG (by rw [HM.out];exact zR)] at Aa
   exact ⟨_,rfl,Aa,Db⟩
def S (l:List Nat):ByteArray:=⟨(l.map fun n=>UInt8.ofNat n).toArray⟩
theorem S_size (l:List Nat):(S l).size=l.length:=by simp [S,ByteArray.size]
theorem zHb {P:Program} {w:vw} {src e dst:vz} {A:Option vy} {n c:Nat} {l:List Nat} (hs:P.underlying src=vE (.slice e)) (he:P.underlying e=vE (.int vu)) (hd:P.underlying dst=vE .string)
  (h:Rd w 1 A n (U8 l)):(convert src dst (ve A n c)).run P w= .ok (.string (S l)) w:=by
 have hl:l.length=n:=by have:=h.len1;rwa [TI] at this
 rcases Ho n with h0 | h0
 ·subst h0
  obtain rfl:l=[]:=DJ hl;rcases A with _ | ad
  ·rw [run_convert_bytes_nil w src e hs he _ _ dst hd]
   rfl
  ·rw [run_convert_bytes_string w src dst e _ 0 c hs he hd,run_bytesToString w ad 0 c [] (by simpa using run_loadCells_list (P:=P) w ad [] (fun j v hj=>by simp at hj))]
   rfl
 ·obtain ⟨ad,rfl,hc⟩:=h.2 h0
  have hlc:=run_loadCells_list (P:=P) w ad (U8 l) hc;rw [TI,hl] at hlc;rw [run_convert_bytes_string w src dst e _ n c hs he hd,run_bytesToString w ad n c (l.map fun x:Nat=>(x:Int)) (by rw [hlc];simp [U8,Function.comp_def]),foldl_push_bytes]
  simp [S,ByteArray.empty,ByteArray.emptyWithCapacity,Function.comp_def]
  rfl
theorem zHg {l1 l2:List Nat} {k:Nat} (h:l1.take k=l2.take k) (h1:k<l1.length) (h2:k<l2.length) (e:l1.getD k 0=l2.getD k 0):l1.take (k+1)=l2.take (k+1):=by
 rw [BM l1 k h1,BM l2 k h2,h,e]
theorem zHf {l1 l2:List Nat} {k:Nat} (e:l1.getD k 0≠l2.getD k 0):decide (l1=l2)=false:=db fun h=>e (by rw [h])
def Jg (w:vw) (cs:List vx) (l:List (List Nat)):Prop:=RSl 1 RWd w cs l
theorem zDS:mB Jg:=Dg jA
theorem zKR {w w1:vw} {v:List vx} {l:List (List Nat)} (h:vA w.1.size w w1) (r:Jg w v l):Jg w1 v l:=zDS _ _ _ _ h r
theorem Gj {w:vw} {A:Option vy} {n c:Nat} {l:List (List Nat)} (h:Jg w [ve A n c] l):l.length=n /\ n <= c /\ c <= maxLen /\ RdL w 1 RWd A l:=by
 obtain ⟨A',n',c',he,h1,h2,h3,h4⟩:=h;simp at he
 obtain ⟨rfl,rfl,rfl⟩:=he;exact ⟨h1,h2,h3,h4⟩
theorem zHA {w:vw} {A:Option vy} {l:List (List Nat)} (h:RdL w 1 RWd A l) (hl:0<l.length):∃ b q,A=vE ⟨b,q,vD⟩:=by
 obtain ⟨a,cs,e,h1,hc,-⟩:=h 0 hl;have h0:=hc 0 (by omega)
 rw [Xb (by omega)] at h0
 have hs:=World.cell?_spot h0;obtain ⟨b,q,s⟩:=a;cases s with
 | none=>exact ⟨b,q,e⟩
 | some x=>simp [Addr.add] at hs
theorem Ju {w:vw} {A:Option vy} {l:List (List Nat)} (h:RdL w 1 RWd A l) {i:Nat} (hi:i<l.length) :
  ∃ b q A1 n1 c1,A=vE ⟨b,q,vD⟩ /\ b<w.1.size /\ w.cell? ⟨b,q+i,vD⟩=vE (ve A1 n1 c1) /\ RWd w [ve A1 n1 c1] l[i]:=by
 obtain ⟨a,cs,e,hl,hc,hr⟩:=h i hi;have dt:=hr;obtain ⟨A1,n1,c1,rfl,-⟩:=dt;obtain ⟨b,q,ha⟩:=zHA h (by omega)
 rw [e] at ha;obtain rfl:=Za ha;have h0:=hc 0 (by omega)
 have e0:(⟨b,q,vD⟩:vy).add (i*1+0)=⟨b,q+i,vD⟩:=by rw [Sl];simp
 rw [e0] at h0;exact ⟨b,q,A1,n1,c1,e,Jf _ _ h0,h0,hr⟩
def Qi (N:Nat) (gb:Option Nat) (w:vw) (v:vx) (l:List Nat):Prop:=∀ u:vw,(∀ b,N <= b -> b<w.1.size -> vE b≠gb -> u.1[b]?=w.1[b]?) -> RWd u [v] l
def Qr (N:Nat) (w:vw) (v:vx) (cs:List vx) (l:List (List Nat)):Prop:=cs.length=l.length /\ ∀ (i:Nat) (h1:i<cs.length) (h2:i<l.length),Qi N v.ownBlock w cs[i] l[i]
theorem LZ (N:Nat) (w:vw) (v:vx):Qr N w v [] []:=⟨rfl,fun i h=>by simp at h⟩
theorem oD {N:Nat} {gb:Option Nat} {w w':vw} {v:vx} {l:List Nat} (h:Qi N gb w v l) (hs:w.1.size <= w'.1.size) (hw:∀ b,N <= b -> b<w.1.size -> vE b≠gb -> w'.1[b]?=w.1[b]?):Qi N gb w' v l :=
 fun u hu=>h u fun b h1 h2 h3=>(hu b h1 (by omega) h3).trans (hw b h1 h2 h3)
theorem zDr {N:Nat} {w w':vw} {v:vx} {cs:List vx} {l:List (List Nat)} (h:Qr N w v cs l) (hs:w.1.size <= w'.1.size) (hw:∀ b,N <= b -> b<w.1.size -> vE b≠v.ownBlock -> w'.1[b]?=w.1[b]?):Qr N w' v cs l :=
 ⟨h.1,fun i h1 h2=>oD (h.2 i h1 h2) hs hw⟩
theorem NB {N:Nat} {w w':vw} {v:vx} {cs:List vx} {l:List (List Nat)} (h:Qr N w v cs l) (hb:vA w.1.size w w'):Qr N w' v cs l :=
 zDr h hb.size fun b _ h2 _=>hb.block b h2
theorem fW {N base n:Nat} {w:vw} {gb:Option Nat} {e:vz} {x:vx} {l:List Nat} (h:w.ownsRow base e 1 x n (Oa l)) (hl:∀ y∈l,y<18446744073709551616) (hN:N <= base) (hg:∀ q,gb=vE q -> q<base):Qi N gb w x l:=by
 intro u hu;have ho:=own_agree' h fun b h1 h2=>hu b (by omega) h2 fun e=>by have:=hg b e.symm;omega
 obtain ⟨A,c,rfl,-⟩:=de ho;exact yt ho hl
where
 own_agree' {w u:vw} {base:Nat} {e:vz} {size:Nat} {v:vx} {n:Nat} {xs:List vx} (h:w.ownsRow base e size v n xs) (ha:∀ b,base <= b -> b<w.1.size -> u.1[b]?=w.1[b]?):u.ownsRow base e size v n xs:=by
  obtain ⟨h1,h2⟩:=h;refine ⟨h1,?_⟩;rcases h2 with h2 | ⟨g,cap,cur,hv,Lk,hh,r⟩
  ·exact Or.inl h2
  ·exact Or.inr ⟨g,cap,cur,hv,Lk,by rw [ha g Lk (Nt.1 hh).1];exact hh,r⟩
theorem KZ {N:Nat} {w w':vw} {v v' x:vx} {cs:List vx} {l:List (List Nat)} {y:List Nat} (h:Qr N w v cs l) (hx:Qi N v.ownBlock w x y) (hg:w.grownBy w' v.ownBlock) (hv:v'.ownBlock=v.ownBlock \/ v'.ownBlock=vE w.1.size):Qr N w' v' (cs++[x]) (l++[y]):=by
 have key:∀ {z:vx} {m:List Nat},Qi N v.ownBlock w z m -> Qi N v'.ownBlock w' z m:=fun {z m} hz u hu=>by
  refine hz u fun b h1 h2 h3=>?_
  refine (hu b h1 (by have:=hg.size;omega) ?_).trans (hg.block b h2 (fun e=>h3 e))
  rcases hv with e | e
  ·rw [e];exact h3
  ·rw [e];intro e2;have:=Za e2;omega
 refine ⟨by simp [h.1],fun i h1 h2=>?_⟩
 by_cases hi:i<cs.length
 ·rw [Iq hi,Iq (by have:=h.1;omega)]
  exact key (h.2 i hi _)
 ·have e1:i=cs.length:=by simp at h1;omega
  have e2:(cs++[x])[i]=x:=by subst e1;simp
  have e3:(l++[y])[i]=y:=by
   have:i=l.length:=by rw [e1,h.1]
   subst this;simp
  rw [e2,e3];exact key hx
theorem xT {N base n:Nat} {w:vw} {e:vz} {v:vx} {cs:List vx} {l:List (List Nat)} (h:Qr N w v cs l) (ho:w.ownsRow base e 1 v n cs):Jg w [v] l:=by
 obtain ⟨A,c,rfl,h1,h2,hr,-⟩:=de ho;have hn:cs.length=n:=by have:=ho.1;omega
 refine ⟨A,n,c,rfl,by rw [<- h.1,hn],h1,h2,fun i hi=>?_⟩
 have Ci:i<cs.length:=by rw [h.1];exact hi
 obtain ⟨b,q,hA,hb,hc⟩:=Jy hr (by omega)
 refine ⟨_,[cs[i]],hA,rfl,fun j hj=>?_,h.2 i Ci hi w fun _ _ _ _=>rfl⟩
 obtain rfl:j=0:=by omega
 rw [Sl,show q+(i*1+0)=q+i by omega,hc i (by omega),Xb Ci]
 rfl
theorem Se {P:Program} {l:List Oper} {hs:List Nat} {Q:Exit -> Act -> vw -> Prop} {R:vw -> vw -> Prop} {za:Array Bool} {a:Act} {w:vw} (M:ie R) {order:List Nat} (h:∀ W,Hid (W=w) -> R w W -> uq P l hs Q R order za a W):uq P l hs Q R order za a w:=h w rfl (M.refl w)
theorem zw {g:Nat} {w w':vw} (h:vA w.1.size w w'):Km g w w':=Nf (Ee w _) h zR
theorem zGB (p:Nat) (pub vars:Int) (A:Option vy) (n c:Nat) (rows:List Ua) (bl bw qs:Int) (w:vw) (hr:RSl 3 Ud w [ve A n c] rows) (ht:Nc p pub vars rows=true) :
  vB prog 73 (iq p pub vars A n c bl bw qs) w fun e w'=>eE ⟨p,pub,vars,rows.length,bl,bw,qs⟩ e /\ vA w.1.size w w':=by
 have bad:qw ⟨p,pub,vars,rows.length,bl,bw,qs⟩=1 -> ∀ {e:Ending} {w':vw},(e=vl (.tuple #[vf Yf,vd vq 1]) /\ vA w.1.size w w') -> eE ⟨p,pub,vars,rows.length,bl,bw,qs⟩ e /\ vA w.1.size w w':=fun he _ _ h=>⟨⟨_,_,h.1, .inl ⟨by decide,rfl,he.symm⟩⟩,h.2⟩
 by_cases hB:bl<2 \/ 256<bl \/ bl.toNat &&& (bl.toNat-1)≠0 \/ qs<1 \/ 64<qs \/ (bw≠1 /\ bw≠2 /\ bw≠4 /\ bw≠8)
 ·exact (zGC p pub vars A n c rows bl bw qs w hr ht hB).mono fun _ _=>bad (Na hB)
 have h2:bl.toNat &&& (bl.toNat-1)=0:=yJ fun e=>hB (.inr (.inr (.inl e)))
 have pF:0 <= pub /\ pub<vars:=by
  have h:=ht;unfold Nc at h;simp only [mc,Xk,mu] at h;omega
 obtain ⟨U,rfl⟩:=Zk pF.1;obtain ⟨V,rfl⟩:=Zk (show 0 <= vars by omega)
 obtain ⟨b,rfl⟩:=Zk (show 0 <= bl by omega)
 obtain ⟨q,rfl⟩:=Zk (show 0 <= qs by omega)
 rw [Bk] at h2;exact zGD p U V A n c rows b q bw w hr ht (by omega) (by omega) h2 (by omega) (by omega) (by omega)
theorem zEK {x:NewIn} {e:Ending} (h:eE x e):∃ y0 y1 y2 y3 y4 y5 y6 y7 y8 y9 Xd er:Int,e=vl (.tuple #[vf #[vd vn y0,vd vq y1,vd vq y2,vd vq y3,vd vq y4,vd vq y5,vd vq y6,vd vq y7,vd vq y8,vd vq y9,vd vq Xd],vd vq er]) /\ (er=0 -> ∃ L,Lb L /\ mi L x /\ #[vd vn y0,vd vq y1,vd vq y2,vd vq y3,vd vq y4,vd vq y5,vd vq y6,vd vq y7,vd vq y8,vd vq y9,vd vq Xd]=jb L):=by
 obtain ⟨lcs,er,he,h | h⟩:=h
 ·obtain ⟨h1,rfl,-⟩:=h
  exact ⟨_,_,_,_,_,_,_,_,_,_,_,er,he,fun h=>absurd h h1⟩
 ·obtain ⟨h1,L,h2,h3,rfl⟩:=h
  exact ⟨_,_,_,_,_,_,_,_,_,_,_,er,he,fun _=>⟨L,h2,h3,rfl⟩⟩
def RR (x:NewIn) (e:Ending):Prop:=∃ (y0 y1 y2 y3 y4 y5 y6 y7 y8 y9 Xd:Int) (b:Bool),e=vl (.tuple #[vf #[vd vn y0,vd vq y1,vd vq y2,vd vq y3,vd vq y4,vd vq y5,vd vq y6,vd vq y7,vd vq y8,vd vq y9,vd vq Xd], .bool b]) /\ (b=true -> ∃ L,Lb L /\ mi L x /\ #[vd vn y0,vd vq y1,vd vq y2,vd vq y3,vd vq y4,vd vq y5,vd vq y6,vd vq y7,vd vq y8,vd vq y9,vd vq Xd]=jb L)
def XN (p:Nat) (pub vars:Int) (rows:vx) (bl bw qs:Int) (ws:vx):Array vx:=#[vd vn p,vd vq pub,vd vq vars,rows,vd vq bl,vd vq bw,vd vq qs,ws]
theorem Blk.cells' {w:vw} {g:Nat} {t:vz} {cs:Array vx} (h:Blk w g t cs):(∀ i,w.cell? ⟨g,i,vD⟩=cs[i]?) /\ (∀ i,w.frozen? ⟨g,i,vD⟩=false):=⟨h.cell,h.frozen⟩
theorem zGE (lim:Int) (p:Nat) (pub vars:Int) (A B:Option vy) (n c m d:Nat) (rows:List Ua) (ws:List Nat) (bl bw qs:Int) (w:vw) (hr:RSl 3 Ud w [ve A n c] rows) (hw:RWd w [ve B m d] ws) (hp:p<18446744073709551616) :
  vB prog 50 #[vf (XN p pub vars (ve A n c) bl bw qs (ve B m d)),vd vq lim] w fun e w'=>(RR ⟨p,pub,vars,rows.length,bl,bw,qs⟩ e /\ (∀ v,e=vl (.tuple #[v, .bool true]) -> Nc p pub vars rows=true /\ Th p vars ws=true /\ bH rows /\ (rows.length:Int) <= lim)) /\ vA w.1.size w w':=by
 have HV:=zH (fun w' (hb:vA w.1.size w w')=>WM p pub vars A n c rows w' (Dg Bg _ _ _ _ hb hr) hp)
 have HA:=zH (fun w' (hb:vA w.1.size w w')=>GV p pub vars (ve A n c) B m d ws w' (Bb hb hw) hp)
 have HS:=zH (fun w' (hb:vA w.1.size w w')=>zGH p pub vars A n c rows w' (Dg Bg _ _ _ _ hb hr))
 have HN:=zH (fun ht w' (hb:vA w.1.size w w')=>zGB p pub vars A n c rows bl bw qs w' (Dg Bg _ _ _ _ hb hr) ht)
 obtain ⟨A',n',c',he,hlen,Ld,Ef,-⟩:=hr;simp at he
 obtain ⟨rfl,rfl,rfl⟩:=he;subst hlen;have gm:(rows.length:Int) <= 9223372036854775807:=by
  simp [maxLen] at Ef
  omega
 unfold XN;have da:vA w.1.size w ((w.alloc (.cells #[vd vn p,vd vq pub,vd vq vars,ve A rows.length c,vd vq bl,vd vq bw,vd vq qs,ve B m d] 30)).alloc (.cells #[vd vn 0,vd vq 0,vd vq 0,vd vq 0,vd vq 0,vd vq 0,vd vq 0,vd vq 0,vd vq 0,vd vq 0,vd vq 0] 35)):=((Ca _ w).alloc zR _).alloc (by simp) _
 by_cases z1:lim<(rows.length:Int)
 ·have d1:decide (lim<(rows.length:Int))=true:=tb z1
  go_enter func50,ntmps50
  go_wp2_with fail
  refine Tc (v:=.tuple #[vf #[vd vn 0,vd vq 0,vd vq 0,vd vq 0,vd vq 0,vd vq 0,vd vq 0,vd vq 0,vd vq 0,vd vq 0,vd vq 0], .bool false]) (by simp [results,results50,go_sem]) rfl ⟨⟨⟨_,_,_,_,_,_,_,_,_,_,_,_,rfl,fun h=>by cases h⟩,fun v h=>by simp at h⟩,da⟩
 ·have d1:decide (lim<(rows.length:Int))=false:=db z1
  have HZ1:=zH (show (rows.length:Int) <= lim by omega)
  clear z1;go_enter func50,ntmps50
  go_wp2_with fail
  refine (HS.out _ da).mono ?_;rintro e w1 ⟨⟨b1,rfl,oy⟩,hb⟩;have HSM:=zH oy;clear oy;obtain ⟨k3,k4,Jb⟩:=qG hb;obtain ⟨c3,f3⟩:=k3.cells';obtain ⟨c4,f4⟩:=k4.cells';clear hb;cases b1
  ·go_wp2_with fail
   obtain ⟨wf,Sb,kW,hW⟩:=Gt k4 Jb;rw [Sb];clear Sb;have Lo:=kW.cell;exact Tc (v:=.tuple #[vf #[vd vn 0,vd vq 0,vd vq 0,vd vq 0,vd vq 0,vd vq 0,vd vq 0,vd vq 0,vd vq 0,vd vq 0,vd vq 0], .bool false]) (by simp [results,results50,go_sem,Lo]) rfl ⟨⟨⟨_,_,_,_,_,_,_,_,_,_,_,_,rfl,fun h=>by cases h⟩,fun v h=>by simp at h⟩,hW⟩
  go_wp2_with fail
  refine (HV.out _ Jb).mono ?_;rintro e w2 ⟨rfl,Ba⟩;cases ht:Nc p pub vars rows
  ·replace k4:=ja k4 Ba
   replace Jb:=pa Jb Ba;clear c3 f3 c4 f4;obtain ⟨c4,f4⟩:=k4.cells';go_wp2_with fail
   obtain ⟨wf,Sb,kW,hW⟩:=Gt k4 Jb;rw [Sb];clear Sb;have Lo:=kW.cell;exact Tc (v:=.tuple #[vf #[vd vn 0,vd vq 0,vd vq 0,vd vq 0,vd vq 0,vd vq 0,vd vq 0,vd vq 0,vd vq 0,vd vq 0,vd vq 0], .bool false]) (by simp [results,results50,go_sem,Lo]) rfl ⟨⟨⟨_,_,_,_,_,_,_,_,_,_,_,_,rfl,fun h=>by cases h⟩,fun v h=>by simp at h⟩,hW⟩
  replace k3:=ja k3 Ba;replace k4:=ja k4 Ba;replace Jb:=pa Jb Ba;clear c3 f3 c4 f4 Ba;obtain ⟨c3,f3⟩:=k3.cells';obtain ⟨c4,f4⟩:=k4.cells';have HT:=zH ht;clear ht;go_wp2_with fail
  refine (HA.out _ Jb).mono ?_;rintro e w3 ⟨rfl,Sa⟩;cases ha:Th p vars ws
  ·replace k4:=ja k4 Sa
   replace Jb:=pa Jb Sa;clear c3 f3 c4 f4;obtain ⟨c4,f4⟩:=k4.cells';go_wp2_with fail
   obtain ⟨wf,Sb,kW,hW⟩:=Gt k4 Jb;rw [Sb];clear Sb;have Lo:=kW.cell;exact Tc (v:=.tuple #[vf #[vd vn 0,vd vq 0,vd vq 0,vd vq 0,vd vq 0,vd vq 0,vd vq 0,vd vq 0,vd vq 0,vd vq 0,vd vq 0], .bool false]) (by simp [results,results50,go_sem,Lo]) rfl ⟨⟨⟨_,_,_,_,_,_,_,_,_,_,_,_,rfl,fun h=>by cases h⟩,fun v h=>by simp at h⟩,hW⟩
  replace k3:=ja k3 Sa;replace k4:=ja k4 Sa;replace Jb:=pa Jb Sa;clear c3 f3 c4 f4 Sa;obtain ⟨c3,f3⟩:=k3.cells';obtain ⟨c4,f4⟩:=k4.cells';have HAs:=zH ha;clear ha;go_wp2_with fail
  refine (HN.out HT.out _ Jb).mono ?_;rintro e w4 ⟨kK,Ab⟩;obtain ⟨y0,y1,y2,y3,y4,y5,y6,y7,y8,y9,Xd,er,rfl,hL⟩:=zEK kK;have HL:=zH hL;clear hL kK;replace k4:=ja k4 Ab;replace Jb:=pa Jb Ab;clear c3 f3 c4 f4 Ab k3;obtain ⟨c4,f4⟩:=k4.cells';have l4:=k4.lt;by_cases h0:er=0
  ·have HE:=zH (show RR ⟨p,pub,vars,rows.length,bl,bw,qs⟩ (vl (.tuple #[vf #[vd vn y0,vd vq y1,vd vq y2,vd vq y3,vd vq y4,vd vq y5,vd vq y6,vd vq y7,vd vq y8,vd vq y9,vd vq Xd], .bool true])) from ⟨_,_,_,_,_,_,_,_,_,_,_,_,rfl,fun _=>HL.out h0⟩)
   clear HL;subst h0;go_wp2_with fail
   obtain ⟨wf,Sb,LI,Yx⟩:=qD k4 Jb y0 y1 y2 y3 y4 y5 y6 y7 y8 y9 Xd;rw [Sb];clear Sb;have kW:=LI.alloc (.cells #[vd vn y0,vd vq y1,vd vq y2,vd vq y3,vd vq y4,vd vq y5,vd vq y6,vd vq y7,vd vq y8,vd vq y9,vd vq Xd] 35);have hW:=Yx.alloc Yx.size (.cells #[vd vn y0,vd vq y1,vd vq y2,vd vq y3,vd vq y4,vd vq y5,vd vq y6,vd vq y7,vd vq y8,vd vq y9,vd vq Xd] 35);have Lo:=kW.cell;exact Tc (v:=.tuple #[vf #[vd vn y0,vd vq y1,vd vq y2,vd vq y3,vd vq y4,vd vq y5,vd vq y6,vd vq y7,vd vq y8,vd vq y9,vd vq Xd], .bool true]) (by simp [results,results50,go_sem,Lo]) rfl ⟨⟨HE.out,fun _ _=>⟨HT.out,HAs.out,HSM.out (by first | trivial | rfl),HZ1.out⟩⟩,hW⟩
  ·have HE:=zH (show RR ⟨p,pub,vars,rows.length,bl,bw,qs⟩ (vl (.tuple #[vf #[vd vn y0,vd vq y1,vd vq y2,vd vq y3,vd vq y4,vd vq y5,vd vq y6,vd vq y7,vd vq y8,vd vq y9,vd vq Xd], .bool false])) from ⟨_,_,_,_,_,_,_,_,_,_,_,_,rfl,fun h=>by cases h⟩)
   clear HL;have g0:(er == 0)=false:=by rw [Gd];exact h0
   go_wp2_with fail
   obtain ⟨wf,Sb,LI,Yx⟩:=qD k4 Jb y0 y1 y2 y3 y4 y5 y6 y7 y8 y9 Xd;rw [Sb];clear Sb;have kW:=LI.alloc (.cells #[vd vn y0,vd vq y1,vd vq y2,vd vq y3,vd vq y4,vd vq y5,vd vq y6,vd vq y7,vd vq y8,vd vq y9,vd vq Xd] 35);have hW:=Yx.alloc Yx.size (.cells #[vd vn y0,vd vq y1,vd vq y2,vd vq y3,vd vq y4,vd vq y5,vd vq y6,vd vq y7,vd vq y8,vd vq y9,vd vq Xd] 35);have Lo:=kW.cell;exact Tc (v:=.tuple #[vf #[vd vn y0,vd vq y1,vd vq y2,vd vq y3,vd vq y4,vd vq y5,vd vq y6,vd vq y7,vd vq y8,vd vq y9,vd vq Xd], .bool false]) (by simp [results,results50,go_sem,Lo]) rfl ⟨⟨HE.out,fun v h=>by simp at h⟩,hW⟩
theorem zHs {g:Nat} (w:vw) (x0 x1 x2 x3 x4 x5 x6 x7 x8 x9 mo:vx) :
  Km g w (((((((((((w.setCell ⟨g,0,vD⟩ x0).setCell ⟨g,1,vD⟩ x1).setCell ⟨g,2,vD⟩ x2).setCell ⟨g,3,vD⟩ x3).setCell ⟨g,4,vD⟩ x4).setCell ⟨g,5,vD⟩ x5).setCell ⟨g,6,vD⟩ x6).setCell ⟨g,7,vD⟩ x7).setCell ⟨g,8,vD⟩ x8).setCell ⟨g,9,vD⟩ x9).setCell ⟨g,10,vD⟩ mo):=by
 unfold Km
 iterate 11 refine Wg ?_ (.inl rfl) _
 exact Ee w _
theorem zGI (y0 y1 y2 y3 y4 y5 y6:Int) (a b c d:Nat) (w:vw) (ha:a <= 100000) (hb:b <= 100000) (hc:c <= 100000) (hd:d <= 100000) :
  vB prog 21 #[vf #[vd vn y0,vd vq y1,vd vq y2,vd vq y3,vd vq y4,vd vq y5,vd vq y6,vd vq a,vd vq b,vd vq c,vd vq d]] w fun e w'=>e=vl (vd vq ((a+b+c+d:Nat):Int)) /\ vA w.1.size w w':=by
 have i1:(a:Int) <= 100000:=by omega
 have i2:(b:Int) <= 100000:=by omega
 have i3:(c:Int) <= 100000:=by omega
 have i4:(d:Int) <= 100000:=by omega
 go_enter func21,ntmps21
 go_wp2_with fail
 go_ret
 exact ⟨by simp,(Ca _ _).alloc zR _⟩
theorem UF (y0 y1 y2 y3 y4 y5 y6:Int) (a b c d:Nat) (w:vw) (ha:a <= 100000) (hb:b <= 100000) (hc:c <= 100000) (hd:d <= 100000) :
  vB prog 119 #[vf #[vd vn y0,vd vq y1,vd vq y2,vd vq y3,vd vq y4,vd vq y5,vd vq y6,vd vq a,vd vq b,vd vq c,vd vq d]] w fun e w'=>e=vl (vd vq ((a+b+c+d:Nat):Int)) /\ vA w.1.size w w':=by
 have i1:(a:Int) <= 100000:=by omega
 have i2:(b:Int) <= 100000:=by omega
 have i3:(c:Int) <= 100000:=by omega
 have i4:(d:Int) <= 100000:=by omega
 go_enter func119,ntmps119
 go_wp2_with fail
 go_ret
 exact ⟨by simp,(Ca _ _).alloc zR _⟩
abbrev Qw:=(Nat -> vx) -> (Nat -> Prop) -> vw -> Prop
structure Mn where
 i:Nat
 deps:List Nat
 eat:List Nat
def Yd (l:List Oper) (j:Nat):Option Tmp:=(l[j]?).bind (·.dst)
def bg (l:List Oper) (vs:Nat -> vx) (a:Act) (js:List Nat):Act:=js.foldl (fun a j=>a.put (Yd l j) (vs j)) a
def gJ:List (Nat × Qw) -> Nat -> Qw
 | [],_=>fun _ _ _=>True
 | (k,p) :: r,j=>if Nat.beq k j then p else gJ r j
theorem AV (l:List Oper) (vs:Nat -> vx) (d:Option Tmp) (v:vx):∀ (js:List Nat) (a:Act),(∀ j∈js,∀ t,d=vE t -> Yd l j≠vE t) -> bg l vs (a.put d v) js=(bg l vs a js).put d v
 | [],_,_=>rfl
 | j :: js,a,h=>by
  show bg l vs ((a.put d v).put (Yd l j) (vs j)) js=_
  rw [Act.put_comm a v (vs j) (h j (by simp))]
  exact AV l vs d v js _ fun k hk=>h k (by simp [hk])
theorem Y7 (l:List Oper) {vs us:Nat -> vx}:∀ (js:List Nat) (a:Act),(∀ j∈js,vs j=us j) -> bg l vs a js=bg l us a js
 | [],_,_=>rfl
 | j :: js,a,h=>by
  show bg l vs (a.put (Yd l j) (vs j)) js=bg l us (a.put (Yd l j) (us j)) js
  rw [h j (by simp)]
  exact Y7 l js _ fun k hk=>h k (by simp [hk])
def Ug (vs:Nat -> vx) (i:Nat) (v:vx):Nat -> vx:=fun j=>if j=i then v else vs j
theorem zAz (vs:Nat -> vx) (i:Nat) (v:vx):Ug vs i v i=v:=Na rfl
theorem PW {vs:Nat -> vx} {i j:Nat} {v:vx} (h:j≠i):Ug vs i v j=vs j:=ya h
theorem CV (l:List Oper) (vs:Nat -> vx) (i:Nat) (v:vx) (f f':Nat -> Bool):∀ (js:List Nat) (a:Act),js.Nodup -> i∈js -> f i=false -> f' i=true -> (∀ j∈js,j≠i -> f' j=f j) ->
  (∀ j∈js,j≠i -> ∀ t,Yd l i=vE t -> Yd l j≠vE t) -> bg l (Ug vs i v) a (js.filter f')=(bg l vs a (js.filter f)).put (Yd l i) v
 | [],_,_,h,_,_,_,_=>by cases h
 | j :: js,a,hn,hi,h0,h1,h2,h3=>by
  obtain ⟨hj,pC⟩:=List.nodup_cons.1 hn;by_cases e:j=i
  ·subst e
   have hf:js.filter f'=js.filter f:=List.filter_congr fun k hk=>h2 k (by simp [hk]) (by rintro rfl;exact hj hk)
   rw [VG h1,UG (by rw [h0];exact Qy),hf]
   show bg l (Ug vs j v) (a.put (Yd l j) (Ug vs j v j)) _=_
   rw [zAz,AV _ _ _ _ _ _ (fun k hk=>h3 k (by simp [(Nl.1 hk).1]) (by rintro rfl;exact hj (Nl.1 hk).1))]
   rw [Y7 l _ a fun k hk=>PW (by rintro rfl;exact hj (Nl.1 hk).1)]
  ·have bF:i∈js:=by
    rcases Dh.1 hi with h | h
    ·exact absurd h.symm e
    ·exact h
   have key:=fun a=>CV l vs i v f f' js a pC bF h0 h1 (fun k hk=>h2 k (by simp [hk])) fun k hk=>h3 k (by simp [hk])
   have e2:=h2 j (by simp) e
   cases hfj:f j
   ·rw [UG (by rw [e2,hfj];exact Qy),UG (by rw [hfj];exact Qy)]
    exact key a
   ·rw [VG (by rw [e2,hfj]),VG hfj]
    show bg l (Ug vs i v) (a.put (Yd l j) (Ug vs i v j)) _=(bg l vs (a.put (Yd l j) (vs j)) _).put _ _
    rw [PW e];exact key _
theorem vQ (l:List Oper) (vs:Nat -> vx) (t:Tmp):∀ (js:List Nat) (a:Act),(∀ j∈js,Yd l j≠vE t) -> (bg l vs a js).eval (.tmp t)=a.eval (.tmp t)
 | [],_,_=>rfl
 | j :: js,a,h=>by
  show (bg l vs (a.put (Yd l j) (vs j)) js).eval _=_
  rw [vQ l vs t js _ fun k hk=>h k (by simp [hk])]
  exact Act.eval_put fun d hd he=>h j (by simp) (by rw [hd];injection he with he;rw [he])
theorem BV (l:List Oper) (vs:Nat -> vx) (t:Tmp) (j:Nat) (hd:Yd l j=vE t):∀ (js:List Nat) (a:Act),j∈js -> (∀ k∈js,k≠j -> Yd l k≠vE t) -> (bg l vs a js).eval (.tmp t)=if t<a.tmps.size then vs j else undef
 | [],_,h,_=>by cases h
 | k :: js,a,h,Ta=>by
  show (bg l vs (a.put (Yd l k) (vs k)) js).eval _=_
  by_cases hj:j∈js
  ·rw [BV l vs t j hd js _ hj fun m hm=>Ta m (by simp [hm])]
   have e:(a.put (Yd l k) (vs k)).tmps.size=a.tmps.size:=by cases h:Yd l k <;> simp [vG]
   rw [e]
  ·obtain rfl:j=k:=by
    rcases Dh.1 h with h | h
    ·exact h
    ·exact absurd h hj
   rw [vQ l vs t js _ fun m hm=>Ta m (by simp [hm]) fun e=>hj (e ▸ hm),hd]
   by_cases ht:t<a.tmps.size <;> simp [Act.eval,vG,ht]
def yq (B:Nat) (X:Nat -> Prop) (w w':vw):Prop:=w'.os=w.os /\ w'.tape=w.tape /\ w'.output=w.output /\ w.1.size <= w'.1.size /\ ∀ b,b<B -> ¬X b -> w'.1[b]?=w.1[b]?
theorem zCB {B:Nat} {X:Nat -> Prop} {a b c:vw} (h:yq B X a b) (k:yq B X b c):yq B X a c :=
 ⟨k.1.trans h.1,k.2.1.trans h.2.1,k.2.2.1.trans h.2.2.1,xb h.2.2.2.1 k.2.2.2.1,fun g h1 h2=>(k.2.2.2.2 g h1 h2).trans (h.2.2.2.2 g h1 h2)⟩
theorem zCA (B:Nat) (X:Nat -> Prop) (w:vw):yq B X w w:=⟨rfl,rfl,rfl,zR,fun _ _ _=>rfl⟩
def Tu (B:Nat) (X:Nat -> Prop) (own:Nat -> Nat) (w:vw) (i:Nat):Nat -> Prop:=fun b=>b<w.1.size /\ (B <= b \/ X b) /\ own b=i
def Ii (P:Program) (x:Sem Next) (w:vw) (K:vx -> vw -> Prop):Prop :=
 (∃ v w',x.run P w= .ok (.value v) w' /\ K v w') \/ (∃ w',x.run P w= .ok .skip w' /\ K undef w') \/ (∃ f vals,x.run P w= .ok (.enter f vals) w /\ vB P f vals w fun e w'=>∃ v,e=vl v /\ K v w')
theorem zCn {P:Program} {o:Oper} {a:Act} {w:vw} {K:Act -> vw -> Prop} {Q:Exit -> Act -> vw -> Prop} (h:Ii P (execOp a.eval o) w fun v w'=>K (a.put o.dst v) w'):o.wp P a w K Q:=by
 unfold Oper.wp;rcases h with ⟨v,w',h1,h2⟩ | ⟨w',h1,h2⟩ | ⟨f,vals,h1,h2⟩
 ·rw [h1];exact h2
 ·rw [h1];exact h2
 ·rw [h1]
  refine Calls.mono h2 ?_;rintro e w' ⟨v,rfl,h3⟩;exact h3
theorem Lx {P:Program} {x:Sem Next} {w w':vw} {K:vx -> vw -> Prop} {v:vx} (h:x.run P w= .ok (.value v) w') (hK:K v w'):Ii P x w K:=.inl ⟨v,w',h,hK⟩
theorem GL {P:Program} {x:Sem Next} {w:vw} {K:vx -> vw -> Prop} {f:FuncId} {vals:Array vx} {post:Ending -> vw -> Prop} (h:x.run P w= .ok (.enter f vals) w) (hc:vB P f vals w post) (hK:∀ e w',post e w' -> ∃ v,e=vl v /\ K v w'):Ii P x w K:=.inr (.inr ⟨f,vals,h,hc.mono hK⟩)
def EB (l:List Oper) (i j:Nat):Bool:=match l[i]? with | some o=>(o.after.any fun e=>Region.binds .any e&&e.on == j) | none=>false
def jQ (l:List Oper) (i:Nat):List Tmp:=match l[i]? with | some o=>(o.op.operands.toList.filterMap fun | .tmp t=>vE t | _=>vD) | none=>[]
def bJ (l:List Oper) (L0:Array Bool):List Nat -> List Nat -> Bool
 | _,[]=>true
 | pre,i :: rest=>(match l[i]? with | some o=>o.guard.isNone&&!L0.getD i true&&o.after.all (fun e=>!Region.binds .any e||L0.getD e.on false||(pre.contains e.on&&decide (e.on<l.length))) | none=>true)&&bJ l L0 (i :: pre) rest
def iQ (l:List Oper) (T:List Mn) (L0:Array Bool):Bool :=
 L0.size == l.length&&(T.map (·.i)).Nodup&&bJ l L0 [] (T.map (·.i)) &&
 (T.all fun s=>T.all fun t=>s.i == t.i||(Yd l s.i).isNone||Yd l s.i != Yd l t.i) &&
 (T.all fun s=>(jQ l s.i).all fun x=>T.all fun t=>Yd l t.i != vE x||s.deps.contains t.i) &&
 (T.all fun s=>s.deps.all fun j=>(T.any fun t=>t.i == j)&&(decide (l.length <= j)||EB l s.i j)) &&
 (T.all fun s=>s.eat.all fun j=>s.deps.contains j&&T.all fun t=>t.i == s.i||!t.deps.contains j) &&
 ((List.range l.length).all fun i=>L0.getD i true||(T.any fun t=>t.i == i)||((T.all fun t=>decide (l.length <= t.i)||EB l i t.i)||(List.range l.length).any fun j=>!L0.getD j true&&!(T.any fun t=>t.i == j)&&EB l i j))
def MN (P:Program) (l:List Oper) (p:Nat -> Qw) (B:Nat) (X:Nat -> Prop) (w0:vw) (a0:Act) (s:Mn):Prop :=
 ∀ (o:Oper),l[s.i]?=vE o -> ∀ (w:vw) (vs:Nat -> vx) (F:Nat -> Nat -> Prop),yq B X w0 w -> (∀ j∈s.deps,p j vs (F j) w /\ ∀ b,F j b -> b<w.1.size /\ (B <= b \/ X b)) -> (∀ j k b,j≠k -> F j b -> ¬F k b) ->
  Ii P (execOp (bg l vs a0 (s.deps.filter (·<l.length))).eval o) w fun v w'=>yq B X w w' /\ (∀ b,b<w.1.size -> (∀ j∈s.eat,¬F j b) -> w'.1[b]?=w.1[b]?) /\ p s.i (Ug vs s.i v) (fun b=>(w.1.size <= b /\ b<w'.1.size) \/ ∃ j∈s.eat,F j b) w'
def FJ (p:Nat -> Qw) (B:Nat) (X:Nat -> Prop) (w0:vw) (s:Mn):Prop :=
 ∀ (vs us:Nat -> vx) (F:Nat -> Prop) (w w':vw),yq B X w0 w -> yq B X w w' -> (∀ m∈s.i :: s.deps,us m=vs m) -> (∀ b,F b -> b<w.1.size) -> (∀ b,F b -> w'.1[b]?=w.1[b]?) -> p s.i vs F w -> p s.i us F w'
section
variable {P:Program} {l:List Oper} {Q:Exit -> Act -> vw -> Prop} {R:vw -> vw -> Prop} {T:List Mn} {p:Nat -> Qw} {B:Nat} {X:Nat -> Prop} {w0:vw} {a0:Act} {L0:Array Bool}
structure JN (l:List Oper) (T:List Mn) (p:Nat -> Qw) (B:Nat) (X:Nat -> Prop) (w0:vw) (a0:Act) (L0 L:Array Bool) (vs:Nat -> vx) (own:Nat -> Nat) (a:Act) (w:vw):Prop where
 size:L.size=l.length
 old:∀ i:Nat,L0.getD i true=true -> L.getD i true=true
 new:∀ i:Nat,L.getD i true=true -> L0.getD i true=true \/ ∃ t∈T,t.i=i
 eff:yq B X w0 w
 act:a=bg l vs a0 ((T.map (·.i)).filter fun j=>L.getD j true&&!L0.getD j true)
 facts:∀ s∈T,L.getD s.i true=true -> (∀ k∈T,s.i∈k.eat -> L.getD k.i true=false) -> p s.i vs (Tu B X own w s.i) w
theorem QY {i j:Nat} (h:EB l i j=true):∃ o,l[i]?=vE o /\ ∃ e∈o.after,Region.binds .any e=true /\ e.on=j:=by
 unfold EB at h;split at h
 ·rename_i o ho
  simp only [Array.any_eq_true] at h;obtain ⟨k,hk,he⟩:=h;simp only [mc,qi] at he;exact ⟨o,ho,o.after[k],Array.getElem_mem hk,he.1,he.2⟩
 ·cases h
theorem cJ:∀ (js pre:List Nat),bJ l L0 pre js=true -> ∀ i∈js,∀ o,l[i]?=vE o -> o.guard=vD /\ L0.getD i true=false
 | [],_,_,i,hi,_,_=>by cases hi
 | j :: js,pre,h,i,hi,o,ho=>by
  unfold bJ at h;rw [mc] at h;rcases Dh.1 hi with rfl | hi
  ·have h1:=h.1
   rw [ho] at h1;simp only [mc,Xk,Option.isNone_iff_eq_none] at h1;exact ⟨h1.1.1,h1.1.2⟩
  ·exact cJ js _ h.2 i hi o ho
theorem I6 {L:Array Bool} (hs:L.size=l.length) (h0:∀ i:Nat,L0.getD i true=true -> L.getD i true=true) (ib:L0.size=l.length):∀ (js pre:List Nat),bJ l L0 pre js=true -> (∀ i∈pre,L.getD i true=true) -> (∃ i∈js,L.getD i true=false) -> ∃ i∈js,i∈Region.ready .any l.toArray L
 | [],_,_,_,⟨i,hi,_⟩=>by cases hi
 | j :: js,pre,h,hp,hx=>by
  unfold bJ at h;rw [mc] at h;cases hj:L.getD j true
  ·refine ⟨j,by simp,?_⟩
   have ta:j<l.length:=by
    rcases Sg j l.length with h | h
    ·exact h
    ·rw [<- hs] at h
     simp [Nat.not_lt.2 h] at hj
   have ho:l[j]?=vE l[j]:=Xb ta;have h1:=h.1;rw [ho] at h1;simp only [mc] at h1;have h2:=h1.2;rw [Array.all_eq_true] at h2;refine mem_ready.2 ⟨hj,l[j],by rw [Ln];exact ho,fun e he hb=>?_⟩
   obtain ⟨k,hk,rfl⟩:=Array.getElem_of_mem he;have h3:=h2 k hk;rw [hb] at h3;simp only [Bool.not_true,Bool.false_or,Bool.or_eq_true] at h3;have key:∀ n:Nat,n<l.length -> L.getD n true=true -> L.getD n false=true:=fun n hn h=>by
    rw [<- hs] at hn
    simpa [hn] using h
   rcases h3 with h3 | h3
   ·have hn:l.toArray[j].after[k].on<l.length:=by
     rcases Sg (l[j].after[k].on) l.length with h | h
     ·exact h
     ·rw [<- ib] at h
      have Qx:L0.getD (l[j].after[k].on) false=true:=h3;simp [Nat.not_lt.2 h] at Qx
    refine key _ hn (h0 _ ?_);rw [<- ib] at hn;have Qx:L0.getD (l[j].after[k].on) false=true:=h3;have pC:l[j].after[k].on<L0.size:=hn;simp [pC] at Qx |-
    exact Qx
   ·rw [mc,Oo,bE] at h3
    exact key _ h3.2 (hp _ h3.1)
  ·obtain ⟨i,hi,h'⟩:=hx
   have Ta:i∈js:=by
    rcases Dh.1 hi with rfl | hi
    ·rw [hj] at h';cases h'
    ·exact hi
   obtain ⟨k,hk,hr⟩:=I6 hs h0 ib js (j :: pre) h.2 (by intro i hi;rcases Dh.1 hi with rfl | hi;exact hj;exact hp i hi) ⟨i,Ta,h'⟩
   exact ⟨k,by simp [hk],hr⟩
theorem NY {P:Program} {x:Sem Next} {w:vw} {K K':vx -> vw -> Prop} (h:∀ v w',K v w' -> K' v w') (hd:Ii P x w K):Ii P x w K':=by
 rcases hd with ⟨v,w',h1,h2⟩ | ⟨w',h1,h2⟩ | ⟨f,vals,h1,h2⟩
 ·exact .inl ⟨v,w',h1,h _ _ h2⟩
 ·exact .inr (.inl ⟨w',h1,h _ _ h2⟩)
 ·exact .inr (.inr ⟨f,vals,h1,h2.mono fun e w' ⟨v,he,hk⟩=>⟨v,he,h _ _ hk⟩⟩)
structure IN (l:List Oper) (T:List Mn) (L0:Array Bool):Prop where
 size:L0.size=l.length
 nodup:(T.map (·.i)).Nodup
 topo:bJ l L0 [] (T.map (·.i))=true
 dst:∀ s∈T,∀ t∈T,s.i≠t.i -> ∀ x,Yd l s.i=vE x -> Yd l t.i≠vE x
 opers:∀ s∈T,∀ x∈jQ l s.i,∀ t∈T,Yd l t.i=vE x -> t.i∈s.deps
 deps:∀ s∈T,∀ j∈s.deps,(∃ t∈T,t.i=j) /\ (l.length <= j \/ EB l s.i j=true)
 eat:∀ s∈T,∀ j∈s.eat,j∈s.deps /\ ∀ t∈T,t.i≠s.i -> j ∉ t.deps
 tail:∀ i,i<l.length -> L0.getD i true=false -> (∀ t∈T,t.i≠i) -> (∀ t∈T,l.length <= t.i \/ EB l i t.i=true) \/ ∃ j,j<l.length /\ L0.getD j true=false /\ (∀ t∈T,t.i≠j) /\ EB l i j=true
theorem G6 (h:iQ l T L0=true):IN l T L0:=by
 unfold iQ at h;simp only [mc,fe,List.any_eq_true,Bool.or_eq_true,qi,Oo,bE,Bf,ne_eq,Xk,Option.isNone_iff_eq_none] at h;obtain ⟨⟨⟨⟨⟨⟨⟨h1,h2⟩,h3⟩,h4⟩,h5⟩,h6⟩,h7⟩,h8⟩:=h;refine ⟨h1,h2,h3,?_,?_,?_,?_,?_⟩
 ·intro s hs t ht Ta x hx
  rcases h4 s hs t ht with (e | e) | e
  ·exact absurd e Ta
  ·rw [e] at hx;cases hx
  ·rw [hx] at e;exact fun e'=>e e'.symm
 ·intro s hs x hx t ht e
  rcases h5 s hs x hx t ht with h | h
  ·exact absurd e h
  ·exact h
 ·intro s hs j hj
  exact h6 s hs j hj
 ·intro s hs j hj
  obtain ⟨h,h'⟩:=h7 s hs j hj;refine ⟨h,fun t ht Ta hd=>?_⟩
  rcases h' t ht with e | e
  ·exact Ta e
  ·rw [<- Bool.not_eq_true,bE] at e
   exact e hd
 ·intro i hi h0 hT
  rcases h8 i (Oi.2 hi) with (h | ⟨t,ht,e⟩) | h | ⟨j,hj,h⟩
  ·rw [h0] at h;cases h
  ·exact absurd e (hT t ht)
  ·exact .inl h
  ·refine .inr ⟨j,Oi.1 hj,h.1.1,fun t ht e=>?_,h.2⟩
   have:=h.1.2;rw [<- Bool.not_eq_true,List.any_eq_true] at this;exact this ⟨t,ht,by rw [qi];exact e⟩
theorem zDo {L:Array Bool} {i:Nat} (h:i<L.size) (a b:Bool):L.getD i a=L.getD i b:=by simp [h]
theorem Ht {L:Array Bool} {i j:Nat}:(L.setIfInBounds i true).getD j true=true↔L.getD j true=true \/ j=i:=by
 by_cases e:i=j
 ·subst e
  by_cases h:i<L.size <;> simp [h]
 ·rw [getD_set_ne true e]
  exact ⟨.inl,fun h=>h.resolve_right fun h=>e h.symm⟩
theorem P9 {L:Array Bool} {i j:Nat} (h:(L.setIfInBounds i true).getD j true=false):L.getD j true=false:=by
 cases hj:L.getD j true
 ·rfl
 ·have:=Ht (i:=i).2 (.inl hj)
  rw [h] at this;cases this
def eJ (own:Nat -> Nat) (w:vw) (s:Mn):Nat -> Nat:=fun b=>if b<w.1.size /\ own b ∉ s.eat then own b else s.i
structure OR (l:List Oper) (T:List Mn) (L:Array Bool) (own:Nat -> Nat) (w:vw):Prop where
 own:∀ b,b<w.1.size -> L.getD (own b) true=true
 deps:∀ t∈T,L.getD t.i true=true -> ∀ j∈t.deps,L.getD j true=true
theorem zFb (ok:IN l T L0) {L:Array Bool} {vs:Nat -> vx} {own:Nat -> Nat} {a:Act} {w:vw} (Qf:Region.noSelect l.toArray=true) (I:JN l T p B X w0 a0 L0 L vs own a w) {s:Mn} (hs:s∈T) {o:Oper} (ho:l[s.i]?=vE o) (hd:∀ j∈s.deps,L.getD j true=true) :
  execOp a.eval o=execOp (bg l vs a0 (s.deps.filter (·<l.length))).eval o:=by
 refine execOp_congr o (fun cs b=>Uu Qf s.i o cs b (by rw [Ln];exact ho)) fun x hx=>?_
 cases x with
 | tmp t =>
  have ht:t∈jQ l s.i:=by
   unfold jQ;rw [ho];exact List.mem_filterMap.2 ⟨.tmp t,by simpa using hx,rfl⟩
  have hTs:∀ j∈T.map (·.i),Yd l j=vE t -> j∈s.deps:=fun j hj e=>by
   obtain ⟨u,hu,rfl⟩:=Ed.1 hj;exact ok.opers s hs t ht u hu e
  have aI:∀ j∈s.deps,j∈T.map (·.i):=fun j hj=>by
   obtain ⟨⟨u,hu,e⟩,-⟩:=ok.deps s hs j hj;exact Ed.2 ⟨u,hu,e⟩
  have huni:∀ j∈T.map (·.i),∀ k∈T.map (·.i),k≠j -> Yd l j=vE t -> Yd l k≠vE t:=fun j hj k hk Ta e=>by
   obtain ⟨u,hu,rfl⟩:=Ed.1 hj;obtain ⟨v,hv,rfl⟩:=Ed.1 hk;exact ok.dst u hu v hv (fun e=>Ta e.symm) t e
  have hlen:∀ j,Yd l j=vE t -> j<l.length:=fun j e=>by
   rcases Sg j l.length with h | h
   ·exact h
   ·unfold Yd at e;rw [Co h] at e;cases e
  rw [I.act];by_cases hex:∃ j∈s.deps,Yd l j=vE t
  ·obtain ⟨j,hj,e⟩:=hex
   have hjT:=aI j hj;have h0:L0.getD j true=false:=by
    obtain ⟨u,hu,rfl⟩:=Ed.1 hjT;exact (cJ _ _ ok.topo _ hjT _ (Xb (hlen _ e))).2
   rw [BV l vs t j e _ _ (Nl.2 ⟨hjT,by rw [hd j hj,h0];rfl⟩) fun k hk Ta=>huni j hjT k (Nl.1 hk).1 Ta e,
    BV l vs t j e _ _ (Nl.2 ⟨hj,by simpa using hlen j e⟩) fun k hk Ta=>huni j hjT k (aI k (Nl.1 hk).1) Ta e]
  ·rw [vQ l vs t _ _ fun j hj e=>hex ⟨j,hTs j (Nl.1 hj).1 e,e⟩,vQ l vs t _ _ fun j hj e=>hex ⟨j,(Nl.1 hj).1,e⟩]
 | _=>rfl
theorem zFi (ok:IN l T L0) {L:Array Bool} {vs:Nat -> vx} {own:Nat -> Nat} {a:Act} {w:vw} (I:JN l T p B X w0 a0 L0 L vs own a w) (J:OR l T L own w) (hB:B <= w0.1.size)
  (Sc:∀ s∈T,FJ p B X w0 s) {s:Mn} (hs:s∈T) {o:Oper} (ho:l[s.i]?=vE o) (hL:L.getD s.i true=false) (hd:∀ j∈s.deps,L.getD j true=true) {v:vx} {w':vw}
  (he:yq B X w w') (hk:∀ b,b<w.1.size -> (∀ j∈s.eat,¬Tu B X own w j b) -> w'.1[b]?=w.1[b]?)
  (hp:p s.i (Ug vs s.i v) (fun b=>(w.1.size <= b /\ b<w'.1.size) \/ ∃ j∈s.eat,Tu B X own w j b) w') :
  JN l T p B X w0 a0 L0 (L.setIfInBounds s.i true) (Ug vs s.i v) (eJ own w s) (a.put o.dst v) w' /\ OR l T (L.setIfInBounds s.i true) (eJ own w s) w':=by
 have hsi:s.i<l.length:=(List.getElem?_eq_some_iff.1 ho).1;have hoi:Yd l s.i=o.dst:=by simp [Yd,ho]
 have hsT:s.i∈T.map (·.i):=Ed.2 ⟨s,hs,rfl⟩
 have hL0:L0.getD s.i true=false:=(cJ _ _ ok.topo _ hsT _ ho).2;have Ta:∀ b,b<w.1.size -> own b≠s.i:=fun b hb e=>by
  have:=J.own b hb;rw [e,hL] at this;cases this
 have N0:∀ t∈T,t.i=s.i -> t=s:=fun t ht e=>by
  have hn:=ok.nodup;obtain ⟨i,hi,rfl⟩:=Hm ht;obtain ⟨j,hj,rfl⟩:=Hm hs;have:=(List.getElem_inj (h₀:=by simpa using hi) (h₁:=by simpa using hj) hn).1 (by simpa using e)
  subst this
  rfl
 refine ⟨⟨by simp [I.size],fun i h=>Ht.2 (.inl (I.old i h)),fun i h=>?_,zCB I.eff he,?_,?_⟩,⟨fun b hb=>?_,fun t ht h j hj=>?_⟩⟩
 ·rcases Ht.1 h with h | rfl
  ·exact I.new i h
  ·exact .inr ⟨s,hs,rfl⟩
 ·rw [I.act,<- hoi]
  refine (CV l vs s.i v _ _ _ a0 ok.nodup hsT (by rw [hL];rfl) (by rw [Ht.2 (.inr rfl),hL0];rfl) (fun j _ Ta=>?_) (fun j hj Ta t e=>?_)).symm
  ·have:(L.setIfInBounds s.i true).getD j true=L.getD j true:=getD_set_ne true fun e=>Ta e.symm
   rw [this]
  ·obtain ⟨u,hu,rfl⟩:=Ed.1 hj
   exact ok.dst s hs u hu (fun e=>Ta e.symm) t e
 ·intro t ht hLt hea
  by_cases e:t.i=s.i
  ·obtain rfl:=N0 t ht e
   have e2:Tu B X (eJ own w t) w' t.i=(fun b=>(w.1.size <= b /\ b<w'.1.size) \/ ∃ j∈t.eat,Tu B X own w j b):=by
    funext b
    apply propext
    unfold Tu eJ;constructor
    ·rintro ⟨h1,h2,h3⟩
     rcases Sg b w.1.size with h | h
     ·by_cases hm:own b∈t.eat
      ·exact .inr ⟨own b,hm,h,h2,rfl⟩
      ·rw [Na ⟨h,hm⟩] at h3
       exact absurd h3 (Ta b h)
     ·exact .inl ⟨h,h1⟩
    ·rintro (⟨h1,h2⟩ | ⟨j,hj,h1,h2,rfl⟩)
     ·exact ⟨h2, .inl (xb hB (xb I.eff.2.2.2.1 h1)),ya fun h=>by omega⟩
     ·exact ⟨Kc h1 he.2.2.2.1,h2,ya fun h=>h.2 hj⟩
   rw [e2];exact hp
  ·have hLt':L.getD t.i true=true:=(Ht.1 hLt).resolve_right e
   have hte:t.i ∉ s.eat:=fun h=>by
    have:=hea s hs h;rw [Ht.2 (.inr rfl)] at this;cases this
   have hf:=I.facts t ht hLt' fun k hk h=>P9 (hea k hk h)
   have e2:Tu B X (eJ own w s) w' t.i=Tu B X own w t.i:=by
    funext b
    apply propext
    unfold Tu eJ;constructor
    ·rintro ⟨h1,h2,h3⟩
     by_cases hm:b<w.1.size /\ own b ∉ s.eat
     ·rw [Na hm] at h3
      exact ⟨hm.1,h2,h3⟩
     ·rw [ya hm] at h3
      exact absurd h3.symm e
    ·rintro ⟨h1,h2,h3⟩
     rw [<- h3] at hte;exact ⟨Kc h1 he.2.2.2.1,h2,by rw [Na ⟨h1,hte⟩];exact h3⟩
   rw [e2];refine Sc t ht vs _ _ w w' I.eff he (fun m hm=>PW fun e=>?_) (fun b hb=>hb.1) (fun b hb=>?_) hf
   ·subst e
    rcases Dh.1 hm with h | h
    ·exact ‹¬t.i=s.i› h.symm
    ·have:=J.deps t ht hLt' _ h
     rw [hL] at this;cases this
   ·refine hk b hb.1 fun j hj hO=>?_
    have:=hO.2.2;rw [hb.2.2] at this;exact hte (this ▸ hj)
 ·unfold eJ
  split
  ·rename_i h
   exact Ht.2 (.inl (J.own b h.1))
  ·exact Ht.2 (.inr rfl)
 ·rcases Ht.1 h with h | h
  ·exact Ht.2 (.inl (J.deps t ht h j hj))
  ·obtain rfl:=N0 t ht h
   exact Ht.2 (.inl (hd j hj))
def Xu (T:List Mn) (L0:Array Bool):Array Bool:=T.foldl (fun L s=>L.setIfInBounds s.i true) L0
theorem IX:∀ (T:List Mn) (L0:Array Bool) (j:Nat),(Xu T L0).getD j true=true↔L0.getD j true=true \/ ∃ t∈T,t.i=j
 | [],L0,j=>by simp [Xu]
 | s :: T,L0,j=>by
  show (Xu T (L0.setIfInBounds s.i true)).getD j true=true↔_
  rw [IX T,Ht];constructor
  ·rintro ((h | rfl) | ⟨t,ht,e⟩)
   ·exact .inl h
   ·exact .inr ⟨s,by simp,rfl⟩
   ·exact .inr ⟨t,by simp [ht],e⟩
  ·rintro (h | ⟨t,ht,e⟩)
   ·exact .inl (.inl h)
   ·rcases Dh.1 ht with rfl | ht
    ·exact .inl (.inr e.symm)
    ·exact .inr ⟨t,ht,e⟩
theorem JX:∀ (T:List Mn) (L0:Array Bool),(Xu T L0).size=L0.size
 | [],_=>rfl
 | s :: T,L0=>by
  show (Xu T (L0.setIfInBounds s.i true)).size=_
  rw [JX T];simp
theorem zFc (M:ie R) (Qf:Region.noSelect l.toArray=true) (ok:IN l T L0) (hB:B <= w0.1.size) (hR:∀ w',yq B X w0 w' -> R w0 w') (Sc:∀ s∈T,FJ p B X w0 s) (tM:∀ s∈T,MN P l p B X w0 a0 s) {fr:Nat}
  (Sn:∀ (w:vw) (vs:Nat -> vx) (F:Nat -> Nat -> Prop),yq B X w0 w -> (∀ s∈T,(∀ k∈T,s.i ∉ k.eat) -> p s.i vs (F s.i) w /\ ∀ b,F s.i b -> b<w.1.size /\ (B <= b \/ X b)) -> (∀ j k b,j≠k -> F j b -> ¬F k b) ->
   yn P l.toArray Q R fr (Xu T L0) (bg l vs a0 ((T.map (·.i)).filter (·<l.length))) w) :
  ∀ (n:Nat) (L:Array Bool) (vs:Nat -> vx) (own:Nat -> Nat) (a:Act) (w:vw),(T.filter fun s=>!L.getD s.i true).length=n -> JN l T p B X w0 a0 L0 L vs own a w -> OR l T L own w -> wpAnyH P .any l.toArray Q (R w0) (n+fr) L a w:=by
 intro n
 induction n with
 | zero =>
  intro L vs own a w hn I J;have hup:∀ t∈T,L.getD t.i true=true:=fun t ht=>by
   have:=DJ hn;rw [List.filter_eq_nil_iff] at this
   simpa using this t ht
  have hLe:L=Xu T L0:=by
   apply Array.ext
   ·rw [JX,I.size,ok.size]
   ·intro i h1 h2
    have e1:L.getD i true=L[i]:=by simp [h1]
    have e2:(Xu T L0).getD i true=(Xu T L0)[i]:=by simp [h2]
    rw [<- e1,<- e2,Bool.eq_iff_iff,IX];constructor
    ·exact I.new i
    ·rintro (h | ⟨t,ht,rfl⟩)
     ·exact I.old i h
     ·exact hup t ht
  have hact:a=bg l vs a0 ((T.map (·.i)).filter (·<l.length)):=by
   rw [I.act]
   congr 1
   refine List.filter_congr fun j hj=>?_
   obtain ⟨t,ht,rfl⟩:=Ed.1 hj;rw [hup t ht,Bool.true_and];rcases Sg t.i l.length with h | h
   ·rw [(cJ _ _ ok.topo _ hj _ (Xb h)).2]
    simp [h]
   ·have:L0.getD t.i true=true:=by rw [<- ok.size] at h;simp [Nat.not_lt.2 h]
    rw [this];simp [Nat.not_lt.2 h]
  have hf:=Sn w vs (Tu B X own w) I.eff (fun s hs Ta=>⟨I.facts s hs (hup s hs) fun k hk h=>absurd h (Ta k hk),fun b hb=>⟨hb.1,hb.2.1⟩⟩) (fun j k b Ta h1 h2=>Ta (h1.2.2.symm.trans h2.2.2))
  rw [Lj,hLe,hact];exact kR (fun w2 h2=>M.trans _ _ _ (hR _ I.eff) h2) _ _ _ _ hf
 | succ n ih =>
  intro L vs own a w hn I J;have hex:∃ s∈T,L.getD s.i true=false:=by
   cases h:T.filter (fun s=>!L.getD s.i true) with
   | nil=>rw [h] at hn;cases hn
   | cons s r =>
    have:s∈T.filter (fun s=>!L.getD s.i true):=by rw [h];simp
    obtain ⟨h1,h2⟩:=Nl.1 this;exact ⟨s,h1,by simpa using h2⟩
  rw [show n+1+fr=(n+fr)+1 by omega]
  refine ⟨fun h=>?_,fun i hi=>?_⟩
  ·obtain ⟨s,hs,h'⟩:=hex
   obtain ⟨i,-,hi⟩:=I6 I.size I.old ok.size _ _ ok.topo (by simp) ⟨s.i,Ed.2 ⟨s,hs,rfl⟩,h'⟩
   rw [h] at hi;cases hi
  ·obtain ⟨hLi,o,ho,ui⟩:=mem_ready.1 hi
   rw [Ln] at ho;have cF:i<l.length:=(List.getElem?_eq_some_iff.1 ho).1;have OT:∀ j,EB l i j=true -> L.getD j true=true:=fun j h=>by
    obtain ⟨o',ho',e,he,hb,rfl⟩:=QY h;rw [ho] at ho';obtain rfl:=Za ho';have:=ui e he hb;rcases Sg e.on L.size with h | h
    ·rw [zDo h true false];exact this
    ·simp [Nat.not_lt.2 h]
   have hT:∃ s∈T,s.i=i:=by
    refine yJ fun Du=>?_
    have h0:L0.getD i true=false:=by
     cases h:L0.getD i true
     ·rfl
     ·have:=I.old i h;rw [hLi] at this;cases this
    rcases ok.tail i cF h0 (fun t ht e=>Du ⟨t,ht,e⟩) with h | ⟨j,hj,h1,h2,h3⟩
    ·obtain ⟨s,hs,h'⟩:=hex
     rcases h s hs with h | h
     ·rw [<- I.size] at h
      simp [Nat.not_lt.2 h] at h'
     ·rw [OT _ h] at h';cases h'
    ·have h4:=OT _ h3
     rcases I.new j h4 with h | ⟨t,ht,e⟩
     ·rw [h1] at h;cases h
     ·exact h2 t ht e
   obtain ⟨s,hs,rfl⟩:=hT;have hd:∀ j∈s.deps,L.getD j true=true:=fun j hj=>by
    rcases (ok.deps s hs j hj).2 with h | h
    ·rw [<- I.size] at h;simp [Nat.not_lt.2 h]
    ·exact OT _ h
   have hg:=(cJ _ _ ok.topo s.i (Ed.2 ⟨s,hs,rfl⟩) o ho).1;unfold wpOp;rw [Ln,ho];simp only [Region.wanted,hg,if_true];refine .inl (zCn ?_);rw [zFb ok Qf I hs ho hd];refine NY ?_ (tM s hs o ho w vs (Tu B X own w) I.eff (fun j hj=>⟨?_,fun b hb=>⟨hb.1,hb.2.1⟩⟩) fun j k b Ta h1 h2=>Ta (h1.2.2.symm.trans h2.2.2))
   ·rintro v w' ⟨he,hk,hp⟩
    obtain ⟨I',J'⟩:=zFi ok I J hB Sc hs ho hLi hd he hk hp;refine ⟨hR _ I'.eff,ih _ _ _ _ _ ?_ I' J'⟩;have e1:(T.filter fun t=>!(L.setIfInBounds s.i true).getD t.i true)=(T.filter fun t=>!L.getD t.i true).filter fun t=>t.i != s.i:=by
     rw [List.filter_filter];refine List.filter_congr fun t ht=>?_
     rw [Bool.eq_iff_iff];simp only [Xk,mc,Bf,ne_eq];constructor
     ·intro h
      refine ⟨fun e=>?_,P9 h⟩
      rw [Ht.2 (.inr e)] at h;cases h
     ·rintro ⟨h1,h2⟩
      cases h:(L.setIfInBounds s.i true).getD t.i true
      ·rfl
      ·rcases Ht.1 h with h | h
       ·rw [h2] at h;cases h
       ·exact absurd h h1
    rw [e1];have:=p6 (T.filter fun t=>!L.getD t.i true) s.i ((List.Sublist.map _ List.filter_sublist).nodup ok.nodup) ⟨s,Nl.2 ⟨hs,by rw [hLi];rfl⟩,rfl⟩
    omega
   ·obtain ⟨⟨t,ht,rfl⟩,-⟩:=ok.deps s hs j hj
    refine I.facts t ht (hd _ hj) fun k hk h=>?_
    by_cases e:k.i=s.i
    ·rw [e];exact hLi
    ·exact absurd hj ((ok.eat k hk _ h).2 s hs fun e'=>e e'.symm)
where
 p6:∀ (T:List Mn) (i:Nat),(T.map (·.i)).Nodup -> (∃ s∈T,s.i=i) -> (T.filter fun t=>t.i != i).length+1=T.length
  | [],_,_,⟨_,h,_⟩=>by cases h
  | t :: T,i,hn,⟨s,hs,e⟩=>by
   obtain ⟨h1,h2⟩:=List.nodup_cons.1 hn;by_cases ht:t.i=i
   ·rw [UG (by simp [ht])]
    have:T.filter (fun t=>t.i != i)=T:=List.filter_eq_self.2 fun u hu=>by
     rw [Bf];intro e';exact h1 (Ed.2 ⟨u,hu,e'.trans ht.symm⟩)
    rw [this];rfl
   ·rw [VG (by simpa using ht)]
    have:=p6 T i h2 (by
     rcases Dh.1 hs with rfl | hs
     ·exact absurd e ht
     ·exact ⟨s,hs,e⟩)
    simp only [xg];omega
theorem zIq (M:ie R) (Qf:Region.noSelect l.toArray=true) (Xa:iQ l T L0=true) (hB:B <= w0.1.size) (hR:∀ w',yq B X w0 w' -> R w0 w') (vs0:Nat -> vx) (jk:Nat -> Nat) (mF:∀ b,b<w0.1.size -> l.length <= jk b)
  (h0:∀ s∈T,l.length <= s.i -> p s.i vs0 (Tu B X jk w0 s.i) w0) (Sc:∀ s∈T,FJ p B X w0 s) (tM:∀ s∈T,MN P l p B X w0 a0 s) {fr n:Nat} (hn:(T.filter (fun s=>!L0.getD s.i true)).length+fr=n)
  (Sn:∀ (w:vw) (vs:Nat -> vx) (F:Nat -> Nat -> Prop),yq B X w0 w -> (∀ s∈T,(∀ k∈T,s.i ∉ k.eat) -> p s.i vs (F s.i) w /\ ∀ b,F s.i b -> b<w.1.size /\ (B <= b \/ X b)) -> (∀ j k b,j≠k -> F j b -> ¬F k b) ->
   yn P l.toArray Q R fr (Xu T L0) (bg l vs a0 ((T.map (·.i)).filter (·<l.length))) w):yn P l.toArray Q R n L0 a0 w0:=by
 have ok:=G6 Xa;have aF:∀ j,l.length <= j -> L0.getD j true=true:=fun j h=>by rw [<- ok.size] at h;simp [Nat.not_lt.2 h]
 have hlow:∀ s∈T,L0.getD s.i true=true -> l.length <= s.i:=fun s hs h=>by
  rcases Sg s.i l.length with h1 | h1
  ·rw [(cJ _ _ ok.topo _ (Ed.2 ⟨s,hs,rfl⟩) _ (Xb h1)).2] at h;cases h
  ·exact h1
 subst hn;refine zFc M Qf ok hB hR Sc tM Sn _ L0 vs0 jk a0 w0 rfl ⟨ok.size,fun _ h=>h,fun _ h=>.inl h,zCA _ _ _,?_,fun s hs h _=>h0 s hs (hlow s hs h)⟩ ⟨fun b hb=>aF _ (mF b hb),fun t ht h j hj=>?_⟩
 ·have:(T.map (·.i)).filter (fun j=>L0.getD j true&&!L0.getD j true)=[]:=List.filter_eq_nil_iff.2 fun j _=>by cases L0.getD j true <;> simp
  rw [this]
  rfl
 ·rcases (ok.deps t ht j hj).2 with h' | h'
  ·exact aF j h'
  ·obtain ⟨o,ho,-⟩:=QY h'
   have:=hlow t ht h;rw [Co this] at ho;cases ho
end
def Nu (B:Nat) (w w':vw):Prop:=vA B w w'
theorem te (B:Nat):ie (Nu B):=⟨fun w=>Ca _ w,fun _ _ _ h k=>Below.trans h k⟩
theorem sT {B:Nat} {w w':vw} (h:Nu B w.drew w'):∀ b o,b<B -> w'.cell? ⟨b,o,vD⟩=w.cell? ⟨b,o,vD⟩:=fun b o hb=>Below.cell h (p:=⟨b,o,vD⟩) hb
theorem Mt {a b:Prop} (h:a) (s:Imp a b:=by
 (repeat ((first | (apply Imp.via (xG (te _) rfl rfl (fun _ _ _ h=>h))) | (apply Imp.via (uG (v:=?_) (te _) rfl rfl (fun _ _ _ h=>h) ?hr);case hr=>(intro w' hR;(first | have Rn:=sT ((te _).trans _ _ _ ia hR) | skip);go_simp;try with_reducible rfl)));simp only [vG,zLa,zLb,zLc]))
 exact Imp.rfl'):b:=s h
theorem zv {B:Nat} {w w':vw} (h:vA w.1.size w w') (hB:B <= w.1.size):Nu B w w':=h.mono hB
theorem CE {B:Nat} (w:vw) {g i:Nat} (v:vx) (hg:B <= g):Nu B w (w.setCell ⟨g,i,vD⟩ v):=(Ca B w).setCell (p:=⟨g,i,vD⟩) hg v
def okL (l:List Oper):List Nat -> Array Bool -> Bool
 | [],_=>true
 | i :: rest,za=>decide (i<l.length)&&Region.free .any l.toArray za i&&(Region.ready .any l.toArray za).contains i&&okL l rest (za.setIfInBounds i true)
def tG (P:Program) (l:List Oper) (Q:Exit -> Act -> vw -> Prop) (R:vw -> vw -> Prop) (order:List Nat) (fuel:Nat) (za:Array Bool) (a:Act) (w:vw):Prop :=
 Region.noSelect l.toArray=true -> okL l order za=true -> yn P l.toArray Q R (order.length+fuel) za a w
section
variable {P:Program} {l:List Oper} {Q:Exit -> Act -> vw -> Prop} {R:vw -> vw -> Prop} {rest:List Nat} {fuel i:Nat} {o:Oper} {za:Array Bool} {a:Act} {w:vw}
theorem zAS {id:Nat} (R:vw -> vw -> Prop) (order:List Nat) (fuel:Nat) (hm:P.follows .mixedOrders=true) (Xa:(Region.noSelect l.toArray&&order.length+fuel == l.length&&okL l order (List.replicate l.length false).toArray)=true)
  (h:tG P l Q R order fuel (List.replicate l.length false).toArray a w.drew):(Code.region id l.toArray true).wp P Q a w:=by
 simp only [mc,qi] at Xa;refine qN R hm ?_;rw [<- Xa.1.2];have:=h Xa.1.1 Xa.2
 rwa [Xa.1.2] at this |-
theorem zAW (M:ie R) {order:List Nat} (h:∀ W,Hid (W=w) -> R w W -> tG P l Q R order fuel za a W):tG P l Q R order fuel za a w:=h w rfl (M.refl w)
theorem F6 (h:okL l (i :: rest) za=true):i<l.length /\ Region.free .any l.toArray za i=true /\ (Region.ready .any l.toArray za).contains i=true /\ okL l rest (za.setIfInBounds i true)=true:=by
 unfold okL at h;simp only [mc,Oo] at h;obtain ⟨⟨⟨h1,h2⟩,h3⟩,h4⟩:=h;exact ⟨h1,h2,h3,h4⟩
theorem zAT {v:vx} (M:ie R) (ho:l[i]?=vE o) (hw:Region.wanted o (yielded l.toArray a.tmps)=true) (hQ:∀ c a w,Q (.panic c) (a.put o.dst v) w -> Q (.panic c) a w)
  (Uc:∀ w',R w w' -> (execOp a.eval o).run P w'= .ok (.value v) w') (h:tG P l Q R rest fuel (za.setIfInBounds i true) (a.put o.dst v) w):tG P l Q R (i :: rest) fuel za a w:=by
 intro hn Xa;obtain ⟨h1,h2,h3,h5⟩:=F6 Xa;have e:=LB (h:=h1) ho;subst e;have:=xm (fuel:=rest.length+fuel) i M h1 hn h2 h3 hQ (.inl ⟨hw,Uc⟩) (h hn h5);rw [xg,show rest.length+1+fuel=rest.length+fuel+1 by omega]
 exact this
theorem zAV (M:ie R) (ho:l[i]?=vE o) (hw:Region.wanted o (yielded l.toArray a.tmps)=false) (hQ:∀ c a w,Q (.panic c) (a.put o.dst undef) w -> Q (.panic c) a w)
  (h:tG P l Q R rest fuel (za.setIfInBounds i true) (a.put o.dst undef) w):tG P l Q R (i :: rest) fuel za a w:=by
 intro hn Xa;obtain ⟨h1,h2,h3,h5⟩:=F6 Xa;have e:=LB (h:=h1) ho;subst e;have:=xm (fuel:=rest.length+fuel) i M h1 hn h2 h3 hQ (.inr ⟨hw,rfl⟩) (h hn h5);rw [xg,show rest.length+1+fuel=rest.length+fuel+1 by omega]
 exact this
end
def Nh (a:Act) (vs:Nat -> vx) (js:List (Option Tmp × Nat)):Act:=js.foldl (fun a j=>a.put j.1 (vs j.2)) a
theorem wQ (l:List Oper) (vs:Nat -> vx):∀ (js:List Nat) (a:Act),bg l vs a js=Nh a vs (js.map fun j=>(Yd l j,j))
 | [],_=>rfl
 | _ :: js,_=>wQ l vs js _
section
variable {P:Program} {l:List Oper} {Q:Exit -> Act -> vw -> Prop} {R:vw -> vw -> Prop} {T:List Mn} {ps:List (Nat × Qw)} {B:Nat} {w0:vw} {a0:Act} {L0:Array Bool}
abbrev ZG:Nat -> Prop:=fun _=>False
theorem qO {B:Nat} {w w':vw}:yq B ZG w w'↔vA B w w':=⟨fun h=>⟨h.1,h.2.1,h.2.2.1,h.2.2.2.1,fun b hb=>h.2.2.2.2 b hb id⟩,fun h=>⟨h.os,h.tape,h.output,h.size,fun b hb _=>h.block b hb⟩⟩
def Bn (w w':vw) (F:Nat -> Nat -> Prop) (eat:List Nat):Nat -> Prop:=fun b=>(w.1.size <= b /\ b<w'.1.size) \/ ∃ j∈eat,F j b
def Ol (B:Nat) (w w':vw) (F:Nat -> Nat -> Prop) (eat:List Nat):Prop:=vA B w w' /\ ∀ b,b<w.1.size -> (∀ j∈eat,¬F j b) -> w'.1[b]?=w.1[b]?
theorem VU (B:Nat) (w:vw) (F:Nat -> Nat -> Prop) (eat:List Nat):Ol B w w F eat:=⟨Ca _ _,fun _ _ _=>rfl⟩
theorem VC {B:Nat} {w w':vw} (h:vA w.1.size w w') (hB:B <= w.1.size) (F:Nat -> Nat -> Prop) (eat:List Nat):Ol B w w' F eat:=⟨h.mono hB,fun b hb _=>h.block b hb⟩
theorem XP {B g:Nat} {w w':vw} {F:Nat -> Nat -> Prop} {eat:List Nat} (h:w.grownBy w' (vE g)) (hg:B <= g) (hB:B <= w.1.size) {j:Nat} (hj:j∈eat) (hF:F j g):Ol B w w' F eat :=
 ⟨Rp h hB hg,fun b hb hn=>h.block b hb fun e=>hn j hj (by rw [Za e];exact hF)⟩
theorem zAU (M:ie R) (T:List Mn) (ps:List (Nat × Qw)) (js:List (Option Tmp × Nat)) (hs tail:List Nat) {fuel:Nat} (hn:Region.noSelect l.toArray=true)
  (Xa:(iQ l T L0&&(T.all fun s=>decide (s.i<l.length))&&decide (T.length+tail.length=fuel)&&ZC l hs tail (Xu T L0)&&(((T.map (·.i)).map fun j=>(Yd l j,j)) == js))=true)
  (hB:B <= w0.1.size) (hR:∀ w',vA B w0 w' -> R w0 w') (Sc:∀ s∈T,FJ (gJ ps) B ZG w0 s) (tM:∀ s∈T,MN P l (gJ ps) B ZG w0 a0 s)
  (Sn:∀ (w:vw) (vs:Nat -> vx) (F:Nat -> Nat -> Prop),vA B w0 w -> (∀ s∈T,(∀ k∈T,s.i ∉ k.eat) -> gJ ps s.i vs (F s.i) w /\ ∀ b,F s.i b -> b<w.1.size /\ B <= b) -> (∀ j k b,j≠k -> F j b -> ¬F k b) ->
   uq P l hs Q R tail (Xu T L0) (Nh a0 vs js) w):tG P l Q R [] fuel L0 a0 w0:=by
 intro _ _;simp only [mc,qi,Oo] at Xa;obtain ⟨⟨⟨⟨h1,h2⟩,h3⟩,h4⟩,h5⟩:=Xa;rw [fe] at h2;have ok:=G6 h1;have ta:∀ s∈T,s.i<l.length:=fun s hs=>by simpa using h2 s hs
 have ui:∀ s∈T,L0.getD s.i true=false:=fun s hs=>(cJ _ _ ok.topo _ (Ed.2 ⟨s,hs,rfl⟩) _ (Xb (ta s hs))).2
 rw [List.length_nil,Lj];refine zIq (X:=ZG) (fr:=tail.length) M hn h1 hB (fun w' h=>hR w' (qO.1 h)) (fun _=>undef) (fun _=>l.length) (fun _ _=>zR) (fun s hs h=>absurd (ta s hs) (Nat.not_lt.2 h)) Sc tM ?_ fun w vs F he hf hd=>?_
 ·rw [List.filter_eq_self.2 fun s hs=>by rw [ui s hs];rfl]
  exact h3
 ·have e:(T.map (·.i)).filter (·<l.length)=T.map (·.i):=List.filter_eq_self.2 fun j hj=>by
   obtain ⟨s,hs,rfl⟩:=Ed.1 hj
   simpa using ta s hs
  rw [e,wQ,h5];exact Sn w vs F (qO.1 he) (fun s hs Ta=>⟨(hf s hs Ta).1,fun b hb=>⟨((hf s hs Ta).2 b hb).1,((hf s hs Ta).2 b hb).2.resolve_right id⟩⟩) hd hn h4
theorem tq {s:Mn} {o:Oper} (js:List (Option Tmp × Nat)) (ho:l[s.i]?=vE o) (hjs:((s.deps.filter (·<l.length)).map fun j=>(Yd l j,j))=js)
  (h:∀ (w:vw) (vs:Nat -> vx) (F:Nat -> Nat -> Prop),vA B w0 w -> (∀ j∈s.deps,gJ ps j vs (F j) w /\ ∀ b,F j b -> b<w.1.size /\ B <= b) -> (∀ j k b,j≠k -> F j b -> ¬F k b) ->
   Ii P (execOp (Nh a0 vs js).eval o) w fun v w'=>Ol B w w' F s.eat /\ gJ ps s.i (Ug vs s.i v) (Bn w w' F s.eat) w'):MN P l (gJ ps) B ZG w0 a0 s:=by
 intro o' ho' w vs F he hd Df;rw [ho] at ho';obtain rfl:=Za ho';rw [wQ,hjs];refine NY ?_ (h w vs F (qO.1 he) (fun j hj=>⟨(hd j hj).1,fun b hb=>⟨((hd j hj).2 b hb).1,((hd j hj).2 b hb).2.resolve_right id⟩⟩) Df)
 rintro v w' ⟨h1,h2⟩;exact ⟨qO.2 h1.1,h1.2,h2⟩
end
def Qp (f:(Nat -> vx) -> vx) (i:Nat):Qw:=fun vs _ _=>vs i=f vs
def De (t:vz) (cs:(Nat -> vx) -> Array vx) (mk:Nat -> vx) (i:Nat):Qw:=fun vs F w=>∃ g,vs i=mk g /\ F g /\ Blk w g t (cs vs)
abbrev yd (n:Nat):Nat -> vx:=fun g=>ve (vE ⟨g,0,vD⟩) n n
abbrev mkP:Nat -> vx:=fun g=>.pointer (vE ⟨g,0,vD⟩)
section
variable {p:Nat -> Qw} {B:Nat} {X:Nat -> Prop} {w0:vw} {s:Mn}
theorem SQ {f:(Nat -> vx) -> vx} (hp:p s.i=Qp f s.i) (hf:∀ vs us:Nat -> vx,(∀ m∈s.deps,us m=vs m) -> f us=f vs):FJ p B X w0 s:=by
 intro vs us F w w' _ _ h _ _ hv;rw [hp] at hv |-;unfold Qp at *;rw [h _ (by simp),hv,hf vs us fun m hm=>h m (by simp [hm])]
theorem Iw {t:vz} {cs:(Nat -> vx) -> Array vx} {mk:Nat -> vx} (hp:p s.i=De t cs mk s.i) (hf:∀ vs us:Nat -> vx,(∀ m∈s.deps,us m=vs m) -> cs us=cs vs):FJ p B X w0 s:=by
 intro vs us F w w' _ _ h _ hk hv;rw [hp] at hv |-;obtain ⟨g,h1,h2,h3⟩:=hv;exact ⟨g,by rw [h _ (by simp),h1],h2,by rw [hf vs us fun m hm=>h m (by simp [hm])];exact (hk g h2).trans h3⟩
theorem Yu {w w':vw} {t:vz} {cs:(Nat -> vx) -> Array vx} {mk:Nat -> vx} {F:Nat -> Nat -> Prop} {eat:List Nat} {vs:Nat -> vx} {i g:Nat} (h:Blk w' g t (cs (Ug vs i (mk g)))) (hg:w.1.size <= g):De t cs mk i (Ug vs i (mk g)) (Bn w w' F eat) w' :=
 ⟨g,zAz _ _ _, .inl ⟨hg,h.lt⟩,h⟩
end
def FRows (N:Nat) (gb:Option Nat) (w:vw) (cs:Array vx) (i:Nat) (f:Nat -> List Nat):Prop:=∀ k,k<i -> ∃ v,cs[k]?=vE v /\ Qi N gb w v (f k)
theorem uT {N n g:Nat} {gb:Option Nat} {w:vw} {t:vz} {cs:Array vx} {f:Nat -> List Nat} (h:FRows N gb w cs n f) (hk:Blk w g t cs) (hm:n <= maxLen):Jg w [ve (vE ⟨g,0,vD⟩) n n] ((List.range n).map f):=by
 refine ⟨_,n,n,rfl,by simp,zR,hm,fun i hi=>?_⟩
 have Ci:i<n:=by simpa using hi
 obtain ⟨v,h1,h2⟩:=h i Ci;refine ⟨_,[v],rfl,rfl,fun j hj=>?_,by simpa using h2 w fun _ _ _ _=>rfl⟩
 obtain rfl:j=0:=by omega
 rw [Sl,show 0+(i*1+0)=i by omega,hk.cell,h1]
 rfl
theorem zHd {N g:Nat} {gb:Option Nat} {w:vw} {t:vz} {l:List Nat} (h:Blk w g t (Oa l).toArray) (hl:∀ x∈l,x<18446744073709551616) (hm:l.length <= maxLen) (hN:N <= g) (hg:vE g≠gb):Qi N gb w (ve (vE ⟨g,0,vD⟩) l.length l.length) l :=
 fun _ hu=>WI (t:=t) ((hu g hN h.lt hg).trans h) hl hm
theorem XI {w:vw} {g n:Nat} {t:vz} {l:List Nat} (h:Blk w g t (Oa l).toArray) (hn:l.length=n) (hl:∀ x∈l,x<18446744073709551616) (hm:n <= maxLen):RWd w [ve (vE ⟨g,0,vD⟩) n n] l:=by
 subst hn;exact WI h hl hm
theorem eW {N g n:Nat} {gb:Option Nat} {w:vw} {t:vz} {l:List Nat} (h:Blk w g t (Oa l).toArray) (hn:l.length=n) (hl:∀ x∈l,x<18446744073709551616) (hm:n <= maxLen) (hN:N <= g) (hg:vE g≠gb):Qi N gb w (ve (vE ⟨g,0,vD⟩) n n) l:=by
 subst hn;exact zHd h hl hm hN hg
structure Dk (p n:Nat):Prop where
 pos:1 <= n
 le:n <= 4096
 two:∃ j,n=2^j
 dvd:(p-1)%n=0
def Be (p n:Nat):Nat:=(Kb p).1^((p-1) / n)%p
theorem zBn:∀ j:Fin 13,bits .and vq ((2^j.val:Nat):Int) (((2^j.val:Nat):Int)-1)=0:=by decide +kernel
theorem xV {j:Nat} (h:2^j <= 4096):j<13:=by
 rcases Sg j 13 with h1 | h1
 ·exact h1
 ·have:2^13 <= 2^j:=Io (by omega) h1
  omega
theorem zGa:∀ b:Fin 257,1 <= b.val -> b.val &&& (b.val-1)=0 -> ∃ j:Fin 9,b.val=2^j.val:=by decide +kernel
theorem gen_lt {p:Nat} (h:Fb p=true):(Kb p).1<p:=by
 rcases Dt h with rfl | rfl | rfl | rfl | rfl | rfl | rfl <;> decide
theorem zCP (p n:Nat) (w:vw) (hp:Fb p=true) (hn:Dk p n) :
  vB prog 280 #[fv p,vd vq n] w fun e w'=>e=vl (.tuple #[vd vn (Be p n:Int), .bool true]) /\ vA w.1.size w w':=by
 obtain ⟨h1,h2,h3,h4⟩:=hn;obtain ⟨jf,Wd⟩:=Pb hp;have HV:=zH (fun w=>Qo p w hp)
 have HG:=zH (fun w=>bT p w hp)
 have hand:bits .and vq (n:Int) ((n:Int)-1)=0:=by
  obtain ⟨j,hj⟩:=h3;have:=zBn ⟨j,xV (by omega)⟩
  simp only at this;rw [<- hj] at this;exact this
 obtain ⟨pm,fq⟩:=zEX (p-1);obtain ⟨m,hm⟩:=zEX (pm / n);have HP:=zH (fun w=>oT p (Kb p).1 m w hp (gen_lt hp) (by rw [hm];exact Nat.lt_of_le_of_lt (qz _ _) (by omega)))
 have hR:Be p n=(Kb p).1^m%p:=by unfold Be;rw [hm,fq]
 rw [hR];have ep:vn.wrap ((p:Int)-1)=(pm:Int):=by rw [fq];exact Py p 1 (by omega) Wd
 have ep2:(p:Int)-1=(pm:Int):=by omega
 have ep3:vn.wrap (pm:Int)=pm:=Wk _ (by omega)
 have en:vn.wrap (n:Int)=n:=Wk _ (by omega)
 have em:vn.wrap (m:Int)=m:=Wk _ (by rw [hm];exact Nat.lt_of_le_of_lt (qz _ _) (by omega))
 have r1:(pm:Int)%(n:Int)=0:=by rw [fq];omega
 have r2:(pm:Int).tmod (n:Int)=0:=by rw [Int.tmod_eq_emod_of_nonneg (by omega)];exact r1
 have r3:(pm:Int) / (n:Int)=m:=by rw [hm];rfl
 have r4:(pm:Int).tdiv (n:Int)=m:=by rw [hm];rfl
 have n0:¬((n:Int)=0):=by omega
 have n5:¬(n=0):=by omega
 have n1:(1:Int)<=n:=by omega
 have n2:((n:Int) == 0)=false:=by rw [Gd];exact n0
 have n3:(0:Int)<n:=by omega
 have n4:(n:Int) <= 4096:=by omega
 clear hR hm jf Wd h1 h2 h3 h4 hp;generalize (Kb p).1=gn at *;generalize gn^m%p=r at *;unfold fv at *;have da:vA w.1.size w (w.alloc (.cells #[vd vn p] 224)):=(Ca _ _).alloc zR _;have kf:=Blk.new w 224 #[vd vn p];clear fq;go_enter func280,ntmps280
 go_wp2_with fail
 refine (HV.out _).mono ?_;rintro e' w1 ⟨rfl,Ia⟩;replace kf:=ja kf Ia;replace da:=pa da Ia;clear Ia;have cf:=kf.cell;have lf:=kf.lt;go_wp2_with fail
 refine Pg (Ub) (ra) [] [] [0,1,2,3,4,5,6,7,8,9,10,11] (by kernel_rfl) (by kernel_rfl) ?_
 refine Qg (ra) ?_;intro Wc ia;refine Je ?_;refine Dd (ra) rfl rfl rfl rfl (fun _ _ _ h=>h) (fun _=>by go_simp <;> rfl) (fun w' hR=>HG.out _) ?_
 refine zPU ?_;refine Je ?_;refine Dd (ra) rfl rfl rfl rfl (fun _ _ _ h=>h) (fun _=>by go_simp <;> rfl) (fun w' hR=>HP.out _) ?_
 refine zPU ?_;refine Je ?_;refine Kr rfl ?_;intro wd ke;replace ia:=(ra).trans _ _ _ ia ke;clear ke;go_wp2
 go_ret2
 exact ⟨rfl,pa da.drew ia⟩
theorem XQ (p n:Nat) (w:vw) (hp:Fb p=true) (hn:Dk p n) :
  vB prog 220 #[fv p,vd vq n] w fun e w'=>e=vl (.tuple #[vd vn (Be p n:Int), .bool true]) /\ vA w.1.size w w':=by
 have HR:=zH (fun w=>zCP p n w hp hn)
 have d1:decide ((n:Int)<1)=false:=db (by have:=hn.pos;omega)
 have d2:decide ((4096:Int)<n)=false:=db (by have:=hn.le;omega)
 clear hn hp;generalize Be p n=r at *;unfold fv at *;have da:vA w.1.size w (w.alloc (.cells #[vd vn p] 224)):=(Ca _ _).alloc zR _;go_enter func220,ntmps220
 go_wp2_with fail
 refine (HR.out _).mono ?_;rintro e' w1 ⟨rfl,Ia⟩;go_wp2
 go_ret2
 exact ⟨rfl,pa da Ia⟩
def Ph (F G:Nat -> Nat) (i:Nat):Nat -> Nat:=fun k=>if k<i then F k else G k
theorem uJ (n:Nat) (F G:Nat -> Nat):Qa n (Ph F G 0)=Qa n G:=tl fun k _=>by simp [Ph]
theorem ZK (n:Nat) (F G:Nat -> Nat):Qa n (Ph F G n)=Qa n F:=tl fun k hk=>by simp [Ph,hk]
theorem zD {n i:Nat} (F G:Nat -> Nat) (h:i<n):(Qa n (Ph F G i))[i]?=vE (vd vn (G i:Int)):=by rw [Mf _ h];simp [Ph]
theorem AD {n i v:Nat} {F G:Nat -> Nat} (h:v=F i):(Qa n (Ph F G i)).setIfInBounds i (vd vn v)=Qa n (Ph F G (i+1)):=by
 rw [Oq];refine tl fun k _=>?_
 simp only [xf,Ph];by_cases e:k=i
 ·subst e;rw [Na rfl,Na (by omega),h]
 ·rw [ya e]
  by_cases h2:k<i
  ·rw [Na h2,Na (by omega)]
  ·rw [ya h2,ya (by omega)]
theorem Hj {w:vw} (g i:Nat) (v:vx):w.grownBy (w.setCell ⟨g,i,vD⟩ v) (vE g):=Wg (p:=⟨g,i,vD⟩) (Ee w _) (.inl rfl) _
def lJ (p:Nat) (l:List Nat) (i:Nat):Nat:=l.getD i 0%p
theorem zHO (p:Nat) (A:Option vy) (n c:Nat) (l:List Nat) (w:vw) (hp:Fb p=true) (hl:RWd w [ve A n c] l) (hn:n <= 100000) :
  vB prog 229 #[fv p,ve A n c] w fun e w'=>∃ g,e=vl (ve (vE ⟨g,0,vD⟩) n n) /\ w.1.size <= g /\ Blk w' g 22 (Qa n (lJ p l)) /\ vA w.1.size w w':=by
 have HR:=zH (fun x w=>BH p x w hp)
 obtain ⟨rfl,h1,h2,ta,Ra⟩:=Nb hl;clear hl;have Ra:=Ra;unfold fv at *;have mk:=nw l.length (by omega)
 have gm:(l.length:Int) <= 100000:=by omega
 go_enter func229,ntmps229
 go_wp2_with fail
 obtain ⟨kf,ka,da,-⟩:=Eh w 224 22 #[vd vn p] (Qa l.length fun _=>0)
 have jg:w.1.size<w.1.size+1:=by omega
 clear mk;generalize (w.alloc _).alloc _=w2 at kf ka da |-;generalize w.1.size+1=ga at ka jg |-;rw [<- uJ _ (lJ p l)] at ka;go_wp2_with fail
 go_loopw [6,7,13] (fun _ _ y wr=>∃ i:Nat,i <= l.length /\ y=vd vq i /\ Blk wr w.1.size 224 #[vd vn p] /\ Blk wr ga 22 (Qa l.length (Ph (lJ p l) (fun _=>0) i)) /\ vA w.1.size w wr) (fun _ _ y _=>l.length-(intOf y).toNat)
 case atStart=>exact ⟨0,Mb _,rfl,kf,ka,da⟩
 case round =>
  clear kf ka da;obtain ⟨i,hi,rfl,kf,ka,da⟩:=hrel;by_cases mC:i<l.length
  ·have g1:(0:Int)<=i:=by omega
   have g2:(i:Int)<l.length:=by omega
   obtain ⟨b,q,rfl,Gb,hc⟩:=Fg (Ra.below da) mC;obtain ⟨x,hx⟩:=zEX (l.getD i 0);obtain ⟨z,hz⟩:=zEX (x%p);have HZ:=zH (show z=lJ p l i by rw [hz,hx];rfl)
   have HX:=zH (fun w=>by have:=HR.out x w;rw [<- hz] at this;exact this)
   rw [<- hx] at hc;clear hx hz;have cf:=kf.cell;go_wp2_with fail
   refine (HX.out _).mono ?_;rintro e w5 ⟨rfl,Ya⟩;have Ik:ga<wr.1.size:=ka.lt;replace kf:=ja kf Ya;replace ka:=ja ka Ya;replace da:=pa da Ya;clear hc cf Ya;have fa:=ka.frozen;have ca:=ka.cell i;rw [zD _ _ mC] at ca;go_wp2_with fail
   have hg:=Hj (w:=w5) ga i (vd vn z);replace kf:=Ce kf hg;replace da:=Ff da hg;replace ka:=ka.set_ i (vd vn z);rw [AD HZ.out] at ka;clear hg fa ca
   go_roundw
   case rel=>exact ⟨i+1,by omega,by go_num,kf,ka,da⟩
   case measure=>simp [intOf];omega
  ·obtain rfl:i=l.length:=by omega
   rw [ZK] at ka;go_wp2;go_ret
   exact ⟨ga,rfl,by omega,ka,da⟩
end Go.Proofs.YteoghgbnielkpaaGreat
