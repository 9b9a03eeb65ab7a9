/- A part of the proof. No condition. -/
import Derived.Shelf.Spec.BitsCarry
import Derived.Test.YtgeofabpinfcmaaGreatProg
import Derived.Test.YtgeofabpinfcmaaGreatEZ4
import Derived.Test.YtgeofabpinfcmaaGreatEZ5

set_option maxRecDepth 100000
set_option maxHeartbeats 8000000
set_option linter.unusedVariables false
set_option linter.unusedSimpArgs false
namespace Go.Proofs.YtgeofabpinfcmaaGreat
open Go.RowKit
def ren25:Go.Shelf.Ren:=⟨fun | 25=>282 | n=>n,fun | 22=>22 | n=>n,fun n=>n⟩
theorem vX:Go.Proofs.Lays7.n25 Tryz.prog ren25:={ mixed:=by kernel_rfl,f25:=by kernel_rfl,t22:=by kernel_rfl,a22:=fun _=>by kernel_rfl,z22:=fun _=>by kernel_rfl,v22:=fun _=>by kernel_rfl,i22:=by kernel_rfl }
theorem T2 (x y:Nat) (w:World):(callFunc 282 #[.int .u64 x, .int .u64 y, .int .u64 0]).run Tryz.prog w =
  .ok (.value (.tuple #[.int .u64 (((x+y)%18446744073709551616:Nat):Int), .int .u64 (((x+y) / 18446744073709551616:Nat):Int)])) w :=
 Any7.bits_Add64 vX x y 0 (by omega) w
def fv (p:Nat):Value:=.agg #[.int .u64 p]
theorem tn (p:Nat) (w:World) (hp:ab p=true) :
  Calls Tryz.prog 216 #[fv p] w fun e w'=>e= .returned (.bool true) /\ Below w.heap.size w w':=by
 unfold fv;rcases pq hp with rfl | rfl | rfl | rfl | rfl | rfl | rfl <;>
 ·go_enter Tryz.func216,Tryz.ntmps216
  go_wp2_with fail
  go_ret
  exact ⟨rfl,(Below.refl _ _).alloc zR _⟩
theorem mW (p:Nat) (w:World) (hp:ab p=true) :
  Calls Tryz.prog 223 #[fv p] w fun e w'=>e= .returned (.tuple #[.int .u64 ((tb p).1:Int), .int .i64 ((tb p).2.1:Int), .int .u64 ((tb p).2.2:Int)]) /\ Below w.heap.size w w':=by
 unfold fv;rcases pq hp with rfl | rfl | rfl | rfl | rfl | rfl | rfl <;>
 ·go_enter Tryz.func223,Tryz.ntmps223
  go_wp2_with fail
  go_ret3
  exact ⟨rfl,(Below.refl _ _).alloc zR _⟩
theorem kK (p:Nat) (w:World) (hp:ab p=true) :
  Calls Tryz.prog 152 #[fv p] w fun e w'=>e= .returned (.int .u64 ((tb p).1:Int)) /\ Below w.heap.size w w':=by
 have H:=zH (fun w=>mW p w hp)
 clear hp;unfold fv at *;generalize tb p=r at *;obtain ⟨a,b,c⟩:=r;go_enter Tryz.func152,Tryz.ntmps152
 go_wp2_with (go_at_call 223;refine (H.out _).mono ?_;rintro e w1 ⟨rfl,hb⟩)
 go_ret
 exact ⟨rfl,oa ((Below.refl _ _).alloc zR _) hb⟩
theorem Gy (p n:Nat) (w:World) (hp:0<p) :
  Calls Tryz.prog 226 #[fv p, .int .u64 n] w fun e w'=>e= .returned (.int .u64 ((n%p:Nat):Int)) /\ Below w.heap.size w w':=by
 unfold fv;have p1:(0:Int)<(p:Int):=by omega
 have e1:(n:Int)%(p:Int)=((n%p:Nat):Int):=rfl;have e2:(n:Int).tmod (p:Int)=((n%p:Nat):Int):=rfl;by_cases h:p <= n
 ·have g:(p:Int) <= (n:Int):=by omega
  revert e1 e2
  generalize n%p=r;intro e1 e2;go_enter Tryz.func226,Tryz.ntmps226
  go_wp2_with fail
  go_ret
  exact ⟨rfl,(Below.refl _ _).alloc zR _⟩
 ·have g:¬((p:Int) <= (n:Int)):=by omega
  have HE:=zH (Nat.mod_eq_of_lt (show n<p by omega))
  clear e1 e2;rw [HE.out];go_enter Tryz.func226,Tryz.ntmps226
  go_wp2_with fail
  go_ret
  exact ⟨rfl,(Below.refl _ _).alloc zR _⟩
theorem rK (p a b:Nat) (w:World) (hp:ab p=true) (ha:a<p) (hb:b<p) :
  Calls Tryz.prog 225 #[fv p, .int .u64 a, .int .u64 b] w fun e w'=>e= .returned (.int .u64 ((a*b%p:Nat):Int)) /\ Below w.heap.size w w':=by
 obtain ⟨h1,h2⟩:=Va hp;unfold fv;have Jw:a*b / 18446744073709551616<p:=by
  have:a*b <= p*18446744073709551615:=Nat.mul_le_mul (by omega) (by omega)
  rw [Nat.div_lt_iff_lt_mul (by omega)]
  omega
 have Mw:a*b%18446744073709551616<18446744073709551616:=Nat.mod_lt _ (by omega)
 have zn:=Nat.div_add_mod (a*b) 18446744073709551616;rw [Nat.mul_comm 18446744073709551616] at zn;have HM:=zH (fun w=>DQ a b w (by omega) (by omega))
 revert Jw Mw zn HM
 generalize a*b / 18446744073709551616=hi;generalize a*b%18446744073709551616=lo;intro Jw Mw zn HM;have HD:=zH (fun w=>QO hi lo p w Jw Mw h2)
 rw [zn] at HD;clear h1 h2 ha hb Jw Mw zn hp;revert HD
 generalize a*b / p=q;generalize a*b%p=r;intro HD;go_enter Tryz.func225,Tryz.ntmps225
 go_wp2_with fail
 refine (HM.out _).mono ?_;rintro e w1 ⟨rfl,rfl⟩;go_wp2_with fail
 refine (HD.out _).mono ?_;rintro e w3 ⟨rfl,k,rfl⟩;go_wp2;go_ret
 exact ⟨rfl,VG ((Below.refl _ _).alloc zR _) _⟩
theorem vW (p a b:Nat) (w:World) (hp:ab p=true) (ha:a<p) (hb:b<p) :
  Calls Tryz.prog 262 #[fv p, .int .u64 a, .int .u64 b] w fun e w'=>e= .returned (.int .u64 (((a+b)%p:Nat):Int)) /\ Below w.heap.size w w':=by
 obtain ⟨h1,h2⟩:=Va hp;unfold fv;have Re:=T2 a b;obtain ⟨s,hs⟩:=zEX ((a+b)%18446744073709551616);obtain ⟨c,hc⟩:=zEX ((a+b) / 18446744073709551616);rw [<- hs,<- hc] at Re;by_cases z:c=0
 ·have d1:((c:Int) != 0)=false:=by rw [bne_eq_false_iff_eq];omega
  have d1':(c:Int)=0:=by omega
  by_cases Rp:p <= s
  ·have d2:(p:Int) <= (s:Int):=by omega
   have e:IntKind.u64.wrap ((s:Int)-(p:Int))=(((a+b)%p:Nat):Int):=by
    rw [Un s p Rp (by omega)]
    congr 1
    have e1:s=a+b:=by omega
    rw [e1,Nat.mod_eq_sub_mod (by omega),Nat.mod_eq_of_lt (by omega)]
   generalize (a+b)%p=r at *;clear hs hc hp z ha hb h1 h2 d1';go_enter Tryz.func262,Tryz.ntmps262
   go_wp2_with fail
   go_ret
   exact ⟨rfl,(Below.refl _ _).alloc zR _⟩
  ·have d2:¬((p:Int) <= (s:Int)):=by omega
   have e:s=(a+b)%p:=by
    have e1:s=a+b:=by omega
    rw [e1,Nat.mod_eq_of_lt (by omega)]
   have HE:=zH e;clear hs hc hp z ha hb h1 h2 d1' e;rw [<- HE.out];go_enter Tryz.func262,Tryz.ntmps262
   go_wp2_with fail
   go_ret
   exact ⟨rfl,(Below.refl _ _).alloc zR _⟩
 ·have d1:((c:Int) != 0)=true:=by rw [bne_iff_ne];omega
  have e:IntKind.u64.wrap ((s:Int)-(p:Int))=(((a+b)%p:Nat):Int):=by
   have e1:(a+b)%p=a+b-p:=by rw [Nat.mod_eq_sub_mod (by omega),Nat.mod_eq_of_lt (by omega)]
   rw [e1,IntKind.wrap_u64];omega
  generalize (a+b)%p=r at *;clear hs hc hp z ha hb h1 h2;go_enter Tryz.func262,Tryz.ntmps262
  go_wp2_with fail
  go_ret
  exact ⟨rfl,(Below.refl _ _).alloc zR _⟩
theorem iF (p n:Nat) (w:World) (hp:ab p=true) :
  Calls Tryz.prog 180 #[fv p, .int .u64 n] w fun e w'=>e= .returned (.int .u64 ((n%p:Nat):Int)) /\ Below w.heap.size w w':=by
 have HV:=zH (fun w=>tn p w hp)
 have HR:=zH (fun w=>Gy p n w (by have:=Va hp;omega))
 clear hp;unfold fv at *;generalize n%p=r at *;have da:Below w.heap.size w (w.alloc (.cells #[.int .u64 p] 223)):=(Below.refl _ _).alloc zR _;have kf:=Blk.new w 223 #[.int .u64 p];go_enter Tryz.func180,Tryz.ntmps180
 go_wp2_with fail
 refine (HV.out _).mono ?_;rintro e w1 ⟨rfl,Ga⟩;replace kf:=ia kf Ga;replace da:=oa da Ga;clear Ga;have cf:=kf.cell;go_wp2_with fail
 refine (HR.out _).mono ?_;rintro e w2 ⟨rfl,Ka⟩;go_wp2;go_ret
 exact ⟨rfl,oa da Ka⟩
theorem Ls (p a b:Nat) (w:World) (hp:ab p=true) :
  Calls Tryz.prog 217 #[fv p, .int .u64 a, .int .u64 b] w fun e w'=>e= .returned (.int .u64 (((a+b)%p:Nat):Int)) /\ Below w.heap.size w w':=by
 have Ed:0<p:=by have:=Va hp;omega
 have HV:=zH (fun w=>tn p w hp)
 have HA:=zH (fun w=>Gy p a w Ed)
 have HB:=zH (fun w=>Gy p b w Ed)
 have HS:=zH (fun w=>vW p (a%p) (b%p) w hp (Nat.mod_lt _ Ed) (Nat.mod_lt _ Ed))
 rw [<- Nat.add_mod] at HS;clear hp Ed;unfold fv at *;generalize (a+b)%p=r at *;generalize a%p=x at *;generalize b%p=y at *;have da:Below w.heap.size w (w.alloc (.cells #[.int .u64 p] 223)):=(Below.refl _ _).alloc zR _;have kf:=Blk.new w 223 #[.int .u64 p];go_enter Tryz.func217,Tryz.ntmps217
 go_wp2_with fail
 refine (HV.out _).mono ?_;rintro e w1 ⟨rfl,Ga⟩;replace kf:=ia kf Ga;replace da:=oa da Ga;clear Ga;have cf:=kf.cell;have lf:=kf.lt;go_wp2_with fail
 refine Hd (Ib) (xa) [] [] [0,1,2,3,4,5,6,7,8] (by kernel_rfl) (by kernel_rfl) ?_
 refine Jd (xa) ?_;intro Wc ja;refine Ic ?_;refine vc (xa) rfl rfl rfl rfl (fun _ _ _ h=>h) (fun _=>by go_simp <;> rfl) (fun w' hR=>HA.out _) ?_
 simp only [Act.put,zLa,zLb,zLc];refine Ic ?_;refine vc (xa) rfl rfl rfl rfl (fun _ _ _ h=>h) (fun _=>by go_simp <;> rfl) (fun w' hR=>HB.out _) ?_
 simp only [Act.put,zLa,zLb,zLc];refine Ic ?_;refine vc (xa) rfl rfl rfl rfl (fun _ _ _ h=>h) (fun _=>by go_simp <;> rfl) (fun w' hR=>HS.out _) ?_
 simp only [Act.put,zLa,zLb,zLc];refine Ic ?_;refine eh rfl ?_;intro wd Tb;replace ja:=(xa).trans _ _ _ ja Tb;clear Tb;go_wp2;go_ret
 exact ⟨rfl,oa da.drew ja⟩
theorem JR (p r a e n:Nat) (h:r*a^e%p=n) (he:e%2=1):(r*a%p)*(a*a%p)^(e / 2)%p=n:=by
 have h2:e=2*(e / 2)+1:=by omega
 rw [<- h,Nat.mul_mod,Nat.mod_mod,<- Nat.pow_mod,<- Nat.mul_mod]
 conv=>rhs;rw [h2,Nat.pow_succ,Nat.pow_mul,Nat.pow_two,Nat.mul_comm _ a,<- Nat.mul_assoc]
theorem GR (p r a e n:Nat) (h:r*a^e%p=n) (he:e%2=0):r*(a*a%p)^(e / 2)%p=n:=by
 have h2:e=2*(e / 2):=by omega
 rw [<- h,Nat.mul_mod,<- Nat.pow_mod,<- Nat.mul_mod]
 conv=>rhs;rw [h2,Nat.pow_mul,Nat.pow_two]
theorem sK (p a e:Nat) (w:World) (hp:ab p=true) (ha:a<p) (he:e<18446744073709551616) :
  Calls Tryz.prog 264 #[fv p, .int .u64 a, .int .u64 e] w fun e' w'=>e'= .returned (.int .u64 ((a^e%p:Nat):Int)) /\ Below w.heap.size w w':=by
 have Ed:1<p:=by have:=Va hp;omega
 have HM:=zH (fun a b w (h1:a<p) (h2:b<p)=>rK p a b w hp h1 h2)
 obtain ⟨n,hn⟩:=zEX (a^e%p);rw [<- hn];have HI:=zH (show 1*a^e%p=n by rw [Nat.one_mul,hn])
 have HP:=zH Ed;clear hn hp Ed;unfold fv at *;have da:Below w.heap.size w (w.alloc (.cells #[.int .u64 p] 223)):=(Below.refl _ _).alloc zR _;have kf:=Blk.new w 223 #[.int .u64 p];go_enter Tryz.func264,Tryz.ntmps264
 go_wp2_with fail
 generalize w.alloc _=w0 at da kf |-;go_loopw [1,2,7] (fun x y z wr=>∃ a' e' r:Nat,x= .int .u64 a' /\ y= .int .u64 e' /\ z= .int .u64 r /\ a'<p /\ r<p /\ e'<18446744073709551616 /\ Hid (r*a'^e'%p=n) /\ Below w0.heap.size w0 wr) (fun _ y _ _=>(intOf y).toNat)
 case atStart=>exact ⟨a,e,1,rfl,rfl,rfl,ha,HP.out,he,HI.out,Below.refl _ _⟩
 case round =>
  obtain ⟨a',e',r,rfl,rfl,rfl,Vq,Uw,Ew,H,Qa⟩:=hrel;have bx:=ia kf Qa;have cf:=bx.cell;by_cases h0:e'=0
  ·subst h0
   have HE:=zH (show r=n by have:=H.out;rw [Nat.pow_zero,Nat.mul_one,Nat.mod_eq_of_lt Uw] at this;exact this)
   go_wp2;go_ret
   exact ⟨by rw [HE.out];rfl,da.trans (Qa.mono da.size)⟩
  ·have g1:(0:Int)<(e':Int):=by omega
   obtain ⟨f,hf⟩:=zEX (e' / 2);have e1:(e':Int) / 2=(f:Int):=by omega
   have eb:bits BinOp.and IntKind.u64 (e':Int) 1=((e'%2:Nat):Int):=by
    have:=bits_and_u64_nat e' 1 Ew (by omega)
    rw [Nat.and_one_is_mod] at this;exact this
   rcases (show e'%2=1 \/ e'%2=0 by omega) with Xp | Xp
   ·rw [Xp] at eb
    have HF:=zH hf;have yd:=zH (fun w=>HM.out r a' w Uw Vq)
    have HX:=JR p r a' e' n H.out Xp;rw [<- hf] at HX;have xi:r*a'%p<p:=Nat.mod_lt _ (by have:=HP.out;omega)
    generalize r*a'%p=s at *;have zA:=fun (Yq:f=0)=>show s*a'^f%p=n by rw [Yq,Nat.pow_zero] at HX |-;exact HX
    replace HX:=zH HX;replace zA:=zH zA;clear Xp hf;go_wp2_with fail
    refine (yd.out _).mono ?_;rintro e w1 ⟨rfl,Ga⟩;replace bx:=bx.below Ga bx.lt;replace Qa:=Uh Qa Ga Qa.size;clear cf Ga;have cf:=bx.cell;by_cases Yq:f=0
    ·have d3:decide (0<f)=false:=decide_eq_false (by omega)
     have ic:=zH Yq;clear Yq;go_wp2_with fail
     go_roundw
     case rel=>exact ⟨a',f,s,rfl,rfl,rfl,Vq,xi,by have:=HF.out;omega,zA.out ic.out,Qa⟩
     case measure=>have:=HF.out;simp [intOf];omega
    ·have g3:(0:Int)<(f:Int):=by omega
     have HQ:=zH (fun w=>HM.out a' a' w Vq Vq)
     have Sg:a'*a'%p<p:=Nat.mod_lt _ (by have:=HP.out;omega)
     have fo:=zH HX.out;generalize a'*a'%p=q at *;go_wp2_with fail
     refine (HQ.out _).mono ?_;rintro e w2 ⟨rfl,Ka⟩;replace Qa:=Uh Qa Ka Qa.size;go_wp2
     go_roundw
     case rel=>exact ⟨q,f,s,rfl,rfl,rfl,Sg,xi,by have:=HF.out;omega,fo.out,Qa⟩
     case measure=>have:=HF.out;simp [intOf];omega
   ·rw [Xp] at eb
    have HF:=zH hf;have HX:=GR p r a' e' n H.out Xp;rw [<- hf] at HX;have zA:=fun (Yq:f=0)=>show r*a'^f%p=n by rw [Yq,Nat.pow_zero] at HX |-;exact HX
    replace HX:=zH HX;replace zA:=zH zA;clear Xp hf;by_cases Yq:f=0
    ·have d3:decide (0<f)=false:=decide_eq_false (by omega)
     have ic:=zH Yq;clear Yq;go_wp2_with fail
     go_roundw
     case rel=>exact ⟨a',f,r,rfl,rfl,rfl,Vq,Uw,by have:=HF.out;omega,zA.out ic.out,Qa⟩
     case measure=>have:=HF.out;simp [intOf];omega
    ·have g3:(0:Int)<(f:Int):=by omega
     have HQ:=zH (fun w=>HM.out a' a' w Vq Vq)
     have Sg:a'*a'%p<p:=Nat.mod_lt _ (by have:=HP.out;omega)
     have fo:=zH HX.out;generalize a'*a'%p=q at *;go_wp2_with fail
     refine (HQ.out _).mono ?_;rintro e w2 ⟨rfl,Ka⟩;replace Qa:=Uh Qa Ka Qa.size;go_wp2
     go_roundw
     case rel=>exact ⟨q,f,r,rfl,rfl,rfl,Sg,Uw,by have:=HF.out;omega,fo.out,Qa⟩
     case measure=>have:=HF.out;simp [intOf];omega
theorem sn (p a b:Nat) (w:World) (hp:ab p=true) :
  Calls Tryz.prog 162 #[fv p, .int .u64 a, .int .u64 b] w fun e w'=>e= .returned (.int .u64 ((a*b%p:Nat):Int)) /\ Below w.heap.size w w':=by
 have Ed:0<p:=by have:=Va hp;omega
 have HV:=zH (fun w=>tn p w hp)
 have HA:=zH (fun w=>Gy p a w Ed)
 have HB:=zH (fun w=>Gy p b w Ed)
 have HS:=zH (fun w=>rK p (a%p) (b%p) w hp (Nat.mod_lt _ Ed) (Nat.mod_lt _ Ed))
 rw [<- Nat.mul_mod] at HS;clear hp Ed;generalize a*b%p=r at *;generalize a%p=x at *;generalize b%p=y at *;unfold fv at *;have da:Below w.heap.size w (w.alloc (.cells #[.int .u64 p] 223)):=(Below.refl _ _).alloc zR _;have kf:=Blk.new w 223 #[.int .u64 p];go_enter Tryz.func162,Tryz.ntmps162
 go_wp2_with fail
 refine (HV.out _).mono ?_;rintro e' w1 ⟨rfl,Ga⟩;replace kf:=ia kf Ga;replace da:=oa da Ga;clear Ga;have cf:=kf.cell;have lf:=kf.lt;go_wp2_with fail
 refine Hd (Ib) (xa) [] [] [0,1,2,3,4,5,6,7,8] (by kernel_rfl) (by kernel_rfl) ?_
 refine Jd (xa) ?_;intro Wc ja;refine Ic ?_;refine vc (xa) rfl rfl rfl rfl (fun _ _ _ h=>h) (fun _=>by go_simp <;> rfl) (fun w' hR=>HA.out _) ?_
 simp only [Act.put,zLa,zLb,zLc];refine Ic ?_;refine vc (xa) rfl rfl rfl rfl (fun _ _ _ h=>h) (fun _=>by go_simp <;> rfl) (fun w' hR=>HB.out _) ?_
 simp only [Act.put,zLa,zLb,zLc];refine Ic ?_;refine vc (xa) rfl rfl rfl rfl (fun _ _ _ h=>h) (fun _=>by go_simp <;> rfl) (fun w' hR=>HS.out _) ?_
 simp only [Act.put,zLa,zLb,zLc];refine Ic ?_;refine eh rfl ?_;intro wd Tb;replace ja:=(xa).trans _ _ _ ja Tb;clear Tb;go_wp2;go_ret
 exact ⟨rfl,oa da.drew ja⟩
theorem nW (p a n:Nat) (w:World) (hp:ab p=true) (hn:n<18446744073709551616) :
  Calls Tryz.prog 246 #[fv p, .int .u64 a, .int .u64 n] w fun e w'=>e= .returned (.int .u64 ((a^n%p:Nat):Int)) /\ Below w.heap.size w w':=by
 have Ed:0<p:=by have:=Va hp;omega
 have HV:=zH (fun w=>tn p w hp)
 have HA:=zH (fun w=>Gy p a w Ed)
 have HS:=zH (fun w=>sK p (a%p) n w hp (Nat.mod_lt _ Ed) hn)
 rw [<- Nat.pow_mod] at HS;clear hp Ed hn;generalize a^n%p=r at *;generalize a%p=x at *;unfold fv at *;have da:Below w.heap.size w (w.alloc (.cells #[.int .u64 p] 223)):=(Below.refl _ _).alloc zR _;have kf:=Blk.new w 223 #[.int .u64 p];go_enter Tryz.func246,Tryz.ntmps246
 go_wp2_with fail
 refine (HV.out _).mono ?_;rintro e' w1 ⟨rfl,Ga⟩;replace kf:=ia kf Ga;replace da:=oa da Ga;clear Ga;have cf:=kf.cell;have lf:=kf.lt;go_wp2_with fail
 refine Hd (Ib) (xa) [] [] [0,1,2,3,4,5,6] (by kernel_rfl) (by kernel_rfl) ?_
 refine Jd (xa) ?_;intro Wc ja;refine Ic ?_;refine vc (xa) rfl rfl rfl rfl (fun _ _ _ h=>h) (fun _=>by go_simp <;> rfl) (fun w' hR=>HA.out _) ?_
 simp only [Act.put,zLa,zLb,zLc];refine Ic ?_;refine vc (xa) rfl rfl rfl rfl (fun _ _ _ h=>h) (fun _=>by go_simp <;> rfl) (fun w' hR=>HS.out _) ?_
 simp only [Act.put,zLa,zLb,zLc];refine Ic ?_;refine eh rfl ?_;intro wd Tb;replace ja:=(xa).trans _ _ _ ja Tb;clear Tb;go_wp2;go_ret
 exact ⟨rfl,oa da.drew ja⟩
theorem lK (p a:Nat) (w:World) (hp:ab p=true) :
  Calls Tryz.prog 228 #[fv p, .int .u64 a] w fun e w'=>e= .returned (.int .u64 ((a^(p-2)%p:Nat):Int)) /\ Below w.heap.size w w':=by
 obtain ⟨jc,Kb⟩:=Va hp;have HV:=zH (fun w=>tn p w hp)
 have HA:=zH (fun w=>Gy p a w (by omega))
 have HS:=zH (fun w=>sK p (a%p) (p-2) w hp (Nat.mod_lt _ (by omega)) (by omega))
 have e1:IntKind.u64.wrap ((p:Int)-2)=((p-2:Nat):Int):=Un p 2 (by omega) Kb
 have e2:(p:Int)-2=((p-2:Nat):Int):=by omega
 have e3:IntKind.u64.wrap ((p-2:Nat):Int)=((p-2:Nat):Int):=pj _ (by omega)
 rw [<- Nat.pow_mod] at HS;clear hp jc Kb;generalize a^(p-2)%p=r at *;generalize a%p=x at *;generalize p-2=m at *;unfold fv at *;have da:Below w.heap.size w (w.alloc (.cells #[.int .u64 p] 223)):=(Below.refl _ _).alloc zR _;have kf:=Blk.new w 223 #[.int .u64 p];go_enter Tryz.func228,Tryz.ntmps228
 go_wp2_with fail
 refine (HV.out _).mono ?_;rintro e' w1 ⟨rfl,Ga⟩;replace kf:=ia kf Ga;replace da:=oa da Ga;clear Ga;have cf:=kf.cell;have lf:=kf.lt;go_wp2_with fail
 refine Hd (Ib) (xa) [] [] [0,1,2,3,4,5,6,7,8] (by kernel_rfl) (by kernel_rfl) ?_
 refine Jd (xa) ?_;intro Wc ja;refine Ic ?_;refine vc (xa) rfl rfl rfl rfl (fun _ _ _ h=>h) (fun _=>by go_simp <;> rfl) (fun w' hR=>HA.out _) ?_
 simp only [Act.put,zLa,zLb,zLc];refine Ic ?_;refine vc (xa) rfl rfl rfl rfl (fun _ _ _ h=>h) (fun _=>by go_simp <;> rfl) (fun w' hR=>HS.out _) ?_
 simp only [Act.put,zLa,zLb,zLc];refine Ic ?_;refine eh rfl ?_;intro wd Tb;replace ja:=(xa).trans _ _ _ ja Tb;clear Tb;go_wp2;go_ret
 exact ⟨rfl,oa da.drew ja⟩
def oc (p a:Nat):Nat:=if a%p=0 then 0 else p-a%p
theorem mK (p a:Nat) (w:World) (hp:ab p=true) :
  Calls Tryz.prog 167 #[fv p, .int .u64 a] w fun e w'=>e= .returned (.int .u64 (oc p a:Int)) /\ Below w.heap.size w w':=by
 obtain ⟨jc,Kb⟩:=Va hp;have HA:=zH (fun w=>iF p a w hp)
 have hx:a%p<p:=Nat.mod_lt _ (by omega)
 have HN:=zH (show oc p a=if a%p=0 then 0 else p-a%p from rfl)
 clear hp;generalize oc p a=r at *;generalize a%p=x at *;by_cases h0:x=0
 ·have HR:=zH (show r=0 by rw [HN.out,if_pos h0])
  subst h0;unfold fv at *;have da:Below w.heap.size w (w.alloc (.cells #[.int .u64 p] 223)):=(Below.refl _ _).alloc zR _;have kf:=Blk.new w 223 #[.int .u64 p];go_enter Tryz.func167,Tryz.ntmps167
  go_wp2_with fail
  refine (HA.out _).mono ?_;rintro e' w1 ⟨rfl,Ga⟩;go_wp2;go_ret
  exact ⟨by rw [HR.out];rfl,oa da Ga⟩
 ·have HR:=zH (show r=p-x by rw [HN.out,if_neg h0])
  have d1:((x:Int) == 0)=false:=by rw [beq_eq_false_iff_ne];omega
  have e1:IntKind.u64.wrap ((p:Int)-(x:Int))=((p-x:Nat):Int):=Un p x (by omega) Kb
  rw [HR.out];clear hx jc Kb h0 HR HN;generalize p-x=z at *;unfold fv at *;have da:Below w.heap.size w (w.alloc (.cells #[.int .u64 p] 223)):=(Below.refl _ _).alloc zR _;have kf:=Blk.new w 223 #[.int .u64 p];go_enter Tryz.func167,Tryz.ntmps167
  go_wp2_with fail
  refine (HA.out _).mono ?_;rintro e' w1 ⟨rfl,Ga⟩;replace kf:=ia kf Ga;have cf:=kf.cell;go_wp2;go_ret
  exact ⟨rfl,oa da Ga⟩
theorem OQ (p a:Nat) (hp:0<p):oc p a<p:=by
 unfold oc;split
 ·exact hp
 ·have:=Nat.mod_lt a hp
  omega
theorem bB (p a b:Nat) (w:World) (hp:ab p=true) :
  Calls Tryz.prog 220 #[fv p, .int .u64 a, .int .u64 b] w fun e w'=>e= .returned (.int .u64 (((a+oc p b)%p:Nat):Int)) /\ Below w.heap.size w w':=by
 have HN:=zH (fun w=>mK p b w hp)
 have HS:=zH (fun w=>Ls p a (oc p b) w hp)
 clear hp;generalize (a+oc p b)%p=r at *;generalize oc p b=x at *;unfold fv at *;have da:Below w.heap.size w (w.alloc (.cells #[.int .u64 p] 223)):=(Below.refl _ _).alloc zR _;have kf:=Blk.new w 223 #[.int .u64 p];go_enter Tryz.func220,Tryz.ntmps220
 have cf:=kf.cell;have lf:=kf.lt;go_wp2_with fail
 refine Hd (Ib) (xa) [] [] [0,1,2,3,4,5,6] (by kernel_rfl) (by kernel_rfl) ?_
 refine Jd (xa) ?_;intro Wc ja;refine Ic ?_;refine vc (xa) rfl rfl rfl rfl (fun _ _ _ h=>h) (fun _=>by go_simp <;> rfl) (fun w' hR=>HN.out _) ?_
 simp only [Act.put,zLa,zLb,zLc];refine Ic ?_;refine vc (xa) rfl rfl rfl rfl (fun _ _ _ h=>h) (fun _=>by go_simp <;> rfl) (fun w' hR=>HS.out _) ?_
 simp only [Act.put,zLa,zLb,zLc];refine Ic ?_;refine eh rfl ?_;intro wd Tb;replace ja:=(xa).trans _ _ _ ja Tb;clear Tb;go_wp2;go_ret
 exact ⟨rfl,oa da.drew ja⟩
theorem qP (p a b:Nat) (w:World) (hp:ab p=true) :
  Calls Tryz.prog 247 #[fv p, .int .u64 a, .int .u64 b] w fun e w'=>e= .returned (.int .u64 ((a*(b^(p-2)%p)%p:Nat):Int)) /\ Below w.heap.size w w':=by
 have HN:=zH (fun w=>lK p b w hp)
 have HS:=zH (fun w=>sn p a (b^(p-2)%p) w hp)
 clear hp;generalize a*(b^(p-2)%p)%p=r at *;generalize b^(p-2)%p=x at *;unfold fv at *;have da:Below w.heap.size w (w.alloc (.cells #[.int .u64 p] 223)):=(Below.refl _ _).alloc zR _;have kf:=Blk.new w 223 #[.int .u64 p];go_enter Tryz.func247,Tryz.ntmps247
 have cf:=kf.cell;have lf:=kf.lt;go_wp2_with fail
 refine Hd (Ib) (xa) [] [] [0,1,2,3,4,5,6] (by kernel_rfl) (by kernel_rfl) ?_
 refine Jd (xa) ?_;intro Wc ja;refine Ic ?_;refine vc (xa) rfl rfl rfl rfl (fun _ _ _ h=>h) (fun _=>by go_simp <;> rfl) (fun w' hR=>HN.out _) ?_
 simp only [Act.put,zLa,zLb,zLc];refine Ic ?_;refine vc (xa) rfl rfl rfl rfl (fun _ _ _ h=>h) (fun _=>by go_simp <;> rfl) (fun w' hR=>HS.out _) ?_
 simp only [Act.put,zLa,zLb,zLc];refine Ic ?_;refine eh rfl ?_;intro wd Tb;replace ja:=(xa).trans _ _ _ ja Tb;clear Tb;go_wp2;go_ret
 exact ⟨rfl,oa da.drew ja⟩
structure St where
 a:Nat
 b:Nat
 c:Nat
def St.val (s:St):Value:=.agg #[.int .u64 s.a, .int .u64 s.b, .int .u64 s.c]
def St.cs (s:St):Array Value:=#[.int .u64 s.a, .int .u64 s.b, .int .u64 s.c]
def St.ok (s:St):Prop:=s.a<18446744073709551616 /\ s.b<18446744073709551616 /\ s.c<18446744073709551616
def sx (k:Nat):Nat:=k*11400714819323198485%18446744073709551616
def Cy (p r i:Nat):Nat:=sx (3*r+i+1)%p
def JC (p:Nat) (s:St):Nat:=((s.a+s.b)%p+s.c)%p
def TF (p:Nat) (s:St):St:=⟨(s.a+JC p s)%p,(s.b+JC p s)%p,(s.c+JC p s)%p⟩
def Hx (p r i x:Nat):Nat:=((x+Cy p r i)%p)^(tb p).2.2%p
def St.at_ (s:St) (i:Nat):Nat:=if i=0 then s.a else if i=1 then s.b else s.c
def Ix (f:Nat -> Nat -> Nat) (s:St):Nat -> St
 | 0=>s
 | 1=>⟨f 0 s.a,s.b,s.c⟩
 | 2=>⟨f 0 s.a,f 1 s.b,s.c⟩
 | _=>⟨f 0 s.a,f 1 s.b,f 2 s.c⟩
def J1 (p r:Nat) (s:St):St:=TF p (Ix (Hx p r) s 3)
def zx (p:Nat) (s:St):Nat -> St
 | 0=>s
 | r+1=>J1 p r (zx p s r)
def Gt (p:Nat) (s:St):St:=zx p s 8
theorem St.cs_at (s:St) {i:Nat} (h:i<3):s.cs[i]?=some (.int .u64 (s.at_ i:Int)):=by
 rcases (show i=0 \/ i=1 \/ i=2 by omega) with rfl | rfl | rfl <;> rfl
theorem I5 (f:Nat -> Nat -> Nat) (s:St) {i:Nat} (h:i<3):(Ix f s i).at_ i=s.at_ i:=by
 rcases (show i=0 \/ i=1 \/ i=2 by omega) with rfl | rfl | rfl <;> rfl
theorem J5 (f:Nat -> Nat -> Nat) (s:St) {i:Nat} (h:i<3):(Ix f s i).cs.setIfInBounds i (.int .u64 (f i (s.at_ i):Int))=(Ix f s (i+1)).cs:=by
 rcases (show i=0 \/ i=1 \/ i=2 by omega) with rfl | rfl | rfl <;> simp [Ix,St.cs,St.at_]
theorem L1 {p:Nat} (h:ab p=true):(tb p).1<18446744073709551616 /\ (tb p).2.2<18446744073709551616:=by
 rcases pq h with rfl | rfl | rfl | rfl | rfl | rfl | rfl <;> exact ⟨by decide,by decide⟩
end Go.Proofs.YtgeofabpinfcmaaGreat
