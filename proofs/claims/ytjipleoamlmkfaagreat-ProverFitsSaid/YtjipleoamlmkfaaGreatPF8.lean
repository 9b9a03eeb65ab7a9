/- A part of the proof. No condition. -/
import Derived.Shelf.Spec.BitsCarry
import Derived.Test.YtjipleoamlmkfaaGreatProg
import Derived.Test.YtjipleoamlmkfaaGreatPF7
import Derived.Test.YtjipleoamlmkfaaGreatPF6

set_option maxRecDepth 100000
set_option maxHeartbeats 8000000
set_option linter.unusedVariables false
set_option linter.unusedSimpArgs false
namespace Go.Proofs.YtjipleoamlmkfaaGreat
open Go.RowKit
def ren25:Go.Shelf.Ren:=⟨fun | 25=>235 | n=>n,fun | 22=>22 | n=>n,fun n=>n⟩
theorem pO:Go.Proofs.Lays7.n25 Tryz.prog ren25:={ mixed:=by kernel_rfl,f25:=by kernel_rfl,t22:=by kernel_rfl,a22:=fun _=>by kernel_rfl,z22:=fun _=>by kernel_rfl,v22:=fun _=>by kernel_rfl,i22:=by kernel_rfl }
theorem mS (x y:Nat) (w:World):(callFunc 235 #[.int .u64 x, .int .u64 y, .int .u64 0]).run Tryz.prog w =
  .ok (.value (.tuple #[.int .u64 (((x+y)%18446744073709551616:Nat):Int), .int .u64 (((x+y) / 18446744073709551616:Nat):Int)])) w :=
 Any7.bits_Add64 pO x y 0 (by omega) w
def fv (p:Nat):Value:=.agg #[.int .u64 p]
theorem Pj (p:Nat) (w:World) (hp:Db p=true) :
  Calls Tryz.prog 168 #[fv p] w fun e w'=>e= .returned (.bool true) /\ Below w.heap.size w w':=by
 unfold fv;rcases Hw hp with rfl | rfl | rfl | rfl | rfl | rfl | rfl <;>
 ·go_enter Tryz.func168,Tryz.ntmps168
  go_wp2_with fail
  go_ret
  exact ⟨rfl,(Below.refl _ _).alloc zR _⟩
theorem nH (p:Nat) (w:World) (hp:Db p=true) :
  Calls Tryz.prog 176 #[fv p] w fun e w'=>e= .returned (.tuple #[.int .u64 ((Yc p).1:Int), .int .i64 ((Yc p).2.1:Int), .int .u64 ((Yc p).2.2:Int)]) /\ Below w.heap.size w w':=by
 unfold fv;rcases Hw hp with rfl | rfl | rfl | rfl | rfl | rfl | rfl <;>
 ·go_enter Tryz.func176,Tryz.ntmps176
  go_wp2_with fail
  go_ret3
  exact ⟨rfl,(Below.refl _ _).alloc zR _⟩
theorem kH (p:Nat) (w:World) (hp:Db p=true) :
  Calls Tryz.prog 103 #[fv p] w fun e w'=>e= .returned (.int .u64 ((Yc p).1:Int)) /\ Below w.heap.size w w':=by
 have H:=zH (fun w=>nH p w hp)
 clear hp;unfold fv at *;generalize Yc p=r at *;obtain ⟨a,b,c⟩:=r;go_enter Tryz.func103,Tryz.ntmps103
 go_wp2_with (go_at_call 176;refine (H.out _).mono ?_;rintro e w1 ⟨rfl,hb⟩)
 go_ret
 exact ⟨rfl,ja ((Below.refl _ _).alloc zR _) hb⟩
theorem IM (p:Nat) (w:World) (hp:Db p=true) :
  Calls Tryz.prog 229 #[fv p] w fun e w'=>e= .returned (.int .u64 ((Yc p).2.2:Int)) /\ Below w.heap.size w w':=by
 have H:=zH (fun w=>nH p w hp)
 clear hp;unfold fv at *;generalize Yc p=r at *;obtain ⟨a,b,c⟩:=r;go_enter Tryz.func229,Tryz.ntmps229
 go_wp2_with (go_at_call 176;refine (H.out _).mono ?_;rintro e w1 ⟨rfl,hb⟩)
 go_ret
 exact ⟨rfl,ja ((Below.refl _ _).alloc zR _) hb⟩
theorem ot (p n:Nat) (w:World) (hp:0<p) :
  Calls Tryz.prog 179 #[fv p, .int .u64 n] w fun e w'=>e= .returned (.int .u64 ((n%p:Nat):Int)) /\ Below w.heap.size w w':=by
 unfold fv;have p1:(0:Int)<(p:Int):=by omega
 have e1:(n:Int)%(p:Int)=((n%p:Nat):Int):=rfl;have e2:(n:Int).tmod (p:Int)=((n%p:Nat):Int):=rfl;by_cases h:p <= n
 ·have g:(p:Int) <= (n:Int):=by omega
  revert e1 e2
  generalize n%p=r;intro e1 e2;go_enter Tryz.func179,Tryz.ntmps179
  go_wp2_with fail
  go_ret
  exact ⟨rfl,(Below.refl _ _).alloc zR _⟩
 ·have g:¬((p:Int) <= (n:Int)):=by omega
  have HE:=zH (Nat.mod_eq_of_lt (show n<p by omega))
  clear e1 e2;rw [HE.out];go_enter Tryz.func179,Tryz.ntmps179
  go_wp2_with fail
  go_ret
  exact ⟨rfl,(Below.refl _ _).alloc zR _⟩
theorem vD (p a b:Nat) (w:World) (hp:Db p=true) (ha:a<p) (hb:b<p) :
  Calls Tryz.prog 178 #[fv p, .int .u64 a, .int .u64 b] w fun e w'=>e= .returned (.int .u64 ((a*b%p:Nat):Int)) /\ Below w.heap.size w w':=by
 obtain ⟨h1,h2⟩:=nc hp;unfold fv;have Vq:a*b / 18446744073709551616<p:=by
  have:a*b <= p*18446744073709551615:=Nat.mul_le_mul (by omega) (by omega)
  rw [Nat.div_lt_iff_lt_mul (by omega)]
  omega
 have Yq:a*b%18446744073709551616<18446744073709551616:=Nat.mod_lt _ (by omega)
 have Yi:=Nat.div_add_mod (a*b) 18446744073709551616;rw [Nat.mul_comm 18446744073709551616] at Yi;have HM:=zH (fun w=>YI a b w (by omega) (by omega))
 revert Vq Yq Yi HM
 generalize a*b / 18446744073709551616=hi;generalize a*b%18446744073709551616=lo;intro Vq Yq Yi HM;have HD:=zH (fun w=>eH hi lo p w Vq Yq h2)
 rw [Yi] at HD;clear h1 h2 ha hb Vq Yq Yi hp;revert HD
 generalize a*b / p=q;generalize a*b%p=r;intro HD;go_enter Tryz.func178,Tryz.ntmps178
 go_wp2_with fail
 refine (HM.out _).mono ?_;rintro e w1 ⟨rfl,rfl⟩;go_wp2_with fail
 refine (HD.out _).mono ?_;rintro e w3 ⟨rfl,k,rfl⟩;go_wp2;go_ret
 exact ⟨rfl,mv ((Below.refl _ _).alloc zR _) _⟩
theorem PM (p a b:Nat) (w:World) (hp:Db p=true) (ha:a<p) (hb:b<p) :
  Calls Tryz.prog 217 #[fv p, .int .u64 a, .int .u64 b] w fun e w'=>e= .returned (.int .u64 (((a+b)%p:Nat):Int)) /\ Below w.heap.size w w':=by
 obtain ⟨h1,h2⟩:=nc hp;unfold fv;have Xb:=mS a b;obtain ⟨s,hs⟩:=zEX ((a+b)%18446744073709551616);obtain ⟨c,hc⟩:=zEX ((a+b) / 18446744073709551616);rw [<- hs,<- hc] at Xb;by_cases z:c=0
 ·have d1:((c:Int) != 0)=false:=by rw [bne_eq_false_iff_eq];omega
  have d1':(c:Int)=0:=by omega
  by_cases aw:p <= s
  ·have d2:(p:Int) <= (s:Int):=by omega
   have e:IntKind.u64.wrap ((s:Int)-(p:Int))=(((a+b)%p:Nat):Int):=by
    rw [Yn s p aw (by omega)]
    congr 1
    have e1:s=a+b:=by omega
    rw [e1,Nat.mod_eq_sub_mod (by omega),Nat.mod_eq_of_lt (by omega)]
   generalize (a+b)%p=r at *;clear hs hc hp z ha hb h1 h2 d1';go_enter Tryz.func217,Tryz.ntmps217
   go_wp2_with fail
   go_ret
   exact ⟨rfl,(Below.refl _ _).alloc zR _⟩
  ·have d2:¬((p:Int) <= (s:Int)):=by omega
   have e:s=(a+b)%p:=by
    have e1:s=a+b:=by omega
    rw [e1,Nat.mod_eq_of_lt (by omega)]
   have HE:=zH e;clear hs hc hp z ha hb h1 h2 d1' e;rw [<- HE.out];go_enter Tryz.func217,Tryz.ntmps217
   go_wp2_with fail
   go_ret
   exact ⟨rfl,(Below.refl _ _).alloc zR _⟩
 ·have d1:((c:Int) != 0)=true:=by rw [bne_iff_ne];omega
  have e:IntKind.u64.wrap ((s:Int)-(p:Int))=(((a+b)%p:Nat):Int):=by
   have e1:(a+b)%p=a+b-p:=by rw [Nat.mod_eq_sub_mod (by omega),Nat.mod_eq_of_lt (by omega)]
   rw [e1,IntKind.wrap_u64];omega
  generalize (a+b)%p=r at *;clear hs hc hp z ha hb h1 h2;go_enter Tryz.func217,Tryz.ntmps217
  go_wp2_with fail
  go_ret
  exact ⟨rfl,(Below.refl _ _).alloc zR _⟩
theorem KA (p n:Nat) (w:World) (hp:Db p=true) :
  Calls Tryz.prog 145 #[fv p, .int .u64 n] w fun e w'=>e= .returned (.int .u64 ((n%p:Nat):Int)) /\ Below w.heap.size w w':=by
 have HV:=zH (fun w=>Pj p w hp)
 have HR:=zH (fun w=>ot p n w (by have:=nc hp;omega))
 clear hp;unfold fv at *;generalize n%p=r at *;have aa:Below w.heap.size w (w.alloc (.cells #[.int .u64 p] 175)):=(Below.refl _ _).alloc zR _;have kf:=Blk.new w 175 #[.int .u64 p];go_enter Tryz.func145,Tryz.ntmps145
 go_wp2_with fail
 refine (HV.out _).mono ?_;rintro e w1 ⟨rfl,ya⟩;replace kf:=ea kf ya;replace aa:=ja aa ya;clear ya;have cf:=kf.cell;go_wp2_with fail
 refine (HR.out _).mono ?_;rintro e w2 ⟨rfl,xa⟩;go_wp2;go_ret
 exact ⟨rfl,ja aa xa⟩
theorem Wi (p a b:Nat) (w:World) (hp:Db p=true) :
  Calls Tryz.prog 169 #[fv p, .int .u64 a, .int .u64 b] w fun e w'=>e= .returned (.int .u64 (((a+b)%p:Nat):Int)) /\ Below w.heap.size w w':=by
 have ie:0<p:=by have:=nc hp;omega
 have HV:=zH (fun w=>Pj p w hp)
 have HA:=zH (fun w=>ot p a w ie)
 have HB:=zH (fun w=>ot p b w ie)
 have HS:=zH (fun w=>PM p (a%p) (b%p) w hp (Nat.mod_lt _ ie) (Nat.mod_lt _ ie))
 rw [<- Nat.add_mod] at HS;clear hp ie;unfold fv at *;generalize (a+b)%p=r at *;generalize a%p=x at *;generalize b%p=y at *;have aa:Below w.heap.size w (w.alloc (.cells #[.int .u64 p] 175)):=(Below.refl _ _).alloc zR _;have kf:=Blk.new w 175 #[.int .u64 p];go_enter Tryz.func169,Tryz.ntmps169
 go_wp2_with fail
 refine (HV.out _).mono ?_;rintro e w1 ⟨rfl,ya⟩;replace kf:=ea kf ya;replace aa:=ja aa ya;clear ya;have cf:=kf.cell;have lf:=kf.lt;go_wp2_with fail
 refine xd (Bb) (pa) [] [] [0,1,2,3,4,5,6,7,8] (by kernel_rfl) (by kernel_rfl) ?_
 refine yd (pa) ?_;intro Wc da;refine Uc ?_;refine Jb (pa) rfl rfl rfl rfl (fun _ _ _ h=>h) (fun _=>by go_simp <;> rfl) (fun w' hR=>HA.out _) ?_
 simp only [Act.put,zLa,zLb,zLc];refine Uc ?_;refine Jb (pa) rfl rfl rfl rfl (fun _ _ _ h=>h) (fun _=>by go_simp <;> rfl) (fun w' hR=>HB.out _) ?_
 simp only [Act.put,zLa,zLb,zLc];refine Uc ?_;refine Jb (pa) rfl rfl rfl rfl (fun _ _ _ h=>h) (fun _=>by go_simp <;> rfl) (fun w' hR=>HS.out _) ?_
 simp only [Act.put,zLa,zLb,zLc];refine Uc ?_;refine im rfl ?_;intro wd Rc;replace da:=(pa).trans _ _ _ da Rc;clear Rc;go_wp2;go_ret
 exact ⟨rfl,ja aa.drew da⟩
theorem OJ (p r a e n:Nat) (h:r*a^e%p=n) (he:e%2=1):(r*a%p)*(a*a%p)^(e / 2)%p=n:=by
 have h2:e=2*(e / 2)+1:=by omega
 rw [<- h,Nat.mul_mod,Nat.mod_mod,<- Nat.pow_mod,<- Nat.mul_mod]
 conv=>rhs;rw [h2,Nat.pow_succ,Nat.pow_mul,Nat.pow_two,Nat.mul_comm _ a,<- Nat.mul_assoc]
theorem NJ (p r a e n:Nat) (h:r*a^e%p=n) (he:e%2=0):r*(a*a%p)^(e / 2)%p=n:=by
 have h2:e=2*(e / 2):=by omega
 rw [<- h,Nat.mul_mod,<- Nat.pow_mod,<- Nat.mul_mod]
 conv=>rhs;rw [h2,Nat.pow_mul,Nat.pow_two]
theorem xD (p a e:Nat) (w:World) (hp:Db p=true) (ha:a<p) (he:e<18446744073709551616) :
  Calls Tryz.prog 219 #[fv p, .int .u64 a, .int .u64 e] w fun e' w'=>e'= .returned (.int .u64 ((a^e%p:Nat):Int)) /\ Below w.heap.size w w':=by
 have ie:1<p:=by have:=nc hp;omega
 have HM:=zH (fun a b w (h1:a<p) (h2:b<p)=>vD p a b w hp h1 h2)
 obtain ⟨n,hn⟩:=zEX (a^e%p);rw [<- hn];have HI:=zH (show 1*a^e%p=n by rw [Nat.one_mul,hn])
 have HP:=zH ie;clear hn hp ie;unfold fv at *;have aa:Below w.heap.size w (w.alloc (.cells #[.int .u64 p] 175)):=(Below.refl _ _).alloc zR _;have kf:=Blk.new w 175 #[.int .u64 p];go_enter Tryz.func219,Tryz.ntmps219
 go_wp2_with fail
 generalize w.alloc _=w0 at aa kf |-;go_loopw [1,2,7] (fun x y z wr=>∃ a' e' r:Nat,x= .int .u64 a' /\ y= .int .u64 e' /\ z= .int .u64 r /\ a'<p /\ r<p /\ e'<18446744073709551616 /\ Hid (r*a'^e'%p=n) /\ Below w0.heap.size w0 wr) (fun _ y _ _=>(intOf y).toNat)
 case atStart=>exact ⟨a,e,1,rfl,rfl,rfl,ha,HP.out,he,HI.out,Below.refl _ _⟩
 case round =>
  obtain ⟨a',e',r,rfl,rfl,rfl,El,Xh,he',H,Qa⟩:=hrel;have Gr:=ea kf Qa;have cf:=Gr.cell;by_cases h0:e'=0
  ·subst h0
   have HE:=zH (show r=n by have:=H.out;rw [Nat.pow_zero,Nat.mul_one,Nat.mod_eq_of_lt Xh] at this;exact this)
   go_wp2;go_ret
   exact ⟨by rw [HE.out];rfl,aa.trans (Qa.mono aa.size)⟩
  ·have g1:(0:Int)<(e':Int):=by omega
   obtain ⟨f,hf⟩:=zEX (e' / 2);have e1:(e':Int) / 2=(f:Int):=by omega
   have eb:bits BinOp.and IntKind.u64 (e':Int) 1=((e'%2:Nat):Int):=by
    have:=bits_and_u64_nat e' 1 he' (by omega)
    rw [Nat.and_one_is_mod] at this;exact this
   rcases (show e'%2=1 \/ e'%2=0 by omega) with Nk | Nk
   ·rw [Nk] at eb
    have HF:=zH hf;have ke:=zH (fun w=>HM.out r a' w Xh El)
    have HX:=OJ p r a' e' n H.out Nk;rw [<- hf] at HX;have Df:r*a'%p<p:=Nat.mod_lt _ (by have:=HP.out;omega)
    generalize r*a'%p=s at *;have Tu:=fun (dn:f=0)=>show s*a'^f%p=n by rw [dn,Nat.pow_zero] at HX |-;exact HX
    replace HX:=zH HX;replace Tu:=zH Tu;clear Nk hf;go_wp2_with fail
    refine (ke.out _).mono ?_;rintro e w1 ⟨rfl,ya⟩;replace Gr:=Gr.below ya Gr.lt;replace Qa:=Om Qa ya Qa.size;clear cf ya;have cf:=Gr.cell;by_cases dn:f=0
    ·have d3:decide (0<f)=false:=decide_eq_false (by omega)
     have fG:=zH dn;clear dn;go_wp2_with fail
     go_roundw
     case rel=>exact ⟨a',f,s,rfl,rfl,rfl,El,Df,by have:=HF.out;omega,Tu.out fG.out,Qa⟩
     case measure=>have:=HF.out;simp [intOf];omega
    ·have g3:(0:Int)<(f:Int):=by omega
     have HQ:=zH (fun w=>HM.out a' a' w El El)
     have sp:a'*a'%p<p:=Nat.mod_lt _ (by have:=HP.out;omega)
     have KU:=zH HX.out;generalize a'*a'%p=q at *;go_wp2_with fail
     refine (HQ.out _).mono ?_;rintro e w2 ⟨rfl,xa⟩;replace Qa:=Om Qa xa Qa.size;go_wp2
     go_roundw
     case rel=>exact ⟨q,f,s,rfl,rfl,rfl,sp,Df,by have:=HF.out;omega,KU.out,Qa⟩
     case measure=>have:=HF.out;simp [intOf];omega
   ·rw [Nk] at eb
    have HF:=zH hf;have HX:=NJ p r a' e' n H.out Nk;rw [<- hf] at HX;have Tu:=fun (dn:f=0)=>show r*a'^f%p=n by rw [dn,Nat.pow_zero] at HX |-;exact HX
    replace HX:=zH HX;replace Tu:=zH Tu;clear Nk hf;by_cases dn:f=0
    ·have d3:decide (0<f)=false:=decide_eq_false (by omega)
     have fG:=zH dn;clear dn;go_wp2_with fail
     go_roundw
     case rel=>exact ⟨a',f,r,rfl,rfl,rfl,El,Xh,by have:=HF.out;omega,Tu.out fG.out,Qa⟩
     case measure=>have:=HF.out;simp [intOf];omega
    ·have g3:(0:Int)<(f:Int):=by omega
     have HQ:=zH (fun w=>HM.out a' a' w El El)
     have sp:a'*a'%p<p:=Nat.mod_lt _ (by have:=HP.out;omega)
     have KU:=zH HX.out;generalize a'*a'%p=q at *;go_wp2_with fail
     refine (HQ.out _).mono ?_;rintro e w2 ⟨rfl,xa⟩;replace Qa:=Om Qa xa Qa.size;go_wp2
     go_roundw
     case rel=>exact ⟨q,f,r,rfl,rfl,rfl,sp,Xh,by have:=HF.out;omega,KU.out,Qa⟩
     case measure=>have:=HF.out;simp [intOf];omega
theorem Lo (p a b:Nat) (w:World) (hp:Db p=true) :
  Calls Tryz.prog 113 #[fv p, .int .u64 a, .int .u64 b] w fun e w'=>e= .returned (.int .u64 ((a*b%p:Nat):Int)) /\ Below w.heap.size w w':=by
 have ie:0<p:=by have:=nc hp;omega
 have HV:=zH (fun w=>Pj p w hp)
 have HA:=zH (fun w=>ot p a w ie)
 have HB:=zH (fun w=>ot p b w ie)
 have HS:=zH (fun w=>vD p (a%p) (b%p) w hp (Nat.mod_lt _ ie) (Nat.mod_lt _ ie))
 rw [<- Nat.mul_mod] at HS;clear hp ie;generalize a*b%p=r at *;generalize a%p=x at *;generalize b%p=y at *;unfold fv at *;have aa:Below w.heap.size w (w.alloc (.cells #[.int .u64 p] 175)):=(Below.refl _ _).alloc zR _;have kf:=Blk.new w 175 #[.int .u64 p];go_enter Tryz.func113,Tryz.ntmps113
 go_wp2_with fail
 refine (HV.out _).mono ?_;rintro e' w1 ⟨rfl,ya⟩;replace kf:=ea kf ya;replace aa:=ja aa ya;clear ya;have cf:=kf.cell;have lf:=kf.lt;go_wp2_with fail
 refine xd (Bb) (pa) [] [] [0,1,2,3,4,5,6,7,8] (by kernel_rfl) (by kernel_rfl) ?_
 refine yd (pa) ?_;intro Wc da;refine Uc ?_;refine Jb (pa) rfl rfl rfl rfl (fun _ _ _ h=>h) (fun _=>by go_simp <;> rfl) (fun w' hR=>HA.out _) ?_
 simp only [Act.put,zLa,zLb,zLc];refine Uc ?_;refine Jb (pa) rfl rfl rfl rfl (fun _ _ _ h=>h) (fun _=>by go_simp <;> rfl) (fun w' hR=>HB.out _) ?_
 simp only [Act.put,zLa,zLb,zLc];refine Uc ?_;refine Jb (pa) rfl rfl rfl rfl (fun _ _ _ h=>h) (fun _=>by go_simp <;> rfl) (fun w' hR=>HS.out _) ?_
 simp only [Act.put,zLa,zLb,zLc];refine Uc ?_;refine im rfl ?_;intro wd Rc;replace da:=(pa).trans _ _ _ da Rc;clear Rc;go_wp2;go_ret
 exact ⟨rfl,ja aa.drew da⟩
theorem JM (p a n:Nat) (w:World) (hp:Db p=true) (hn:n<18446744073709551616) :
  Calls Tryz.prog 230 #[fv p, .int .u64 a, .int .u64 n] w fun e w'=>e= .returned (.int .u64 ((a^n%p:Nat):Int)) /\ Below w.heap.size w w':=by
 have ie:0<p:=by have:=nc hp;omega
 have HV:=zH (fun w=>Pj p w hp)
 have HA:=zH (fun w=>ot p a w ie)
 have HS:=zH (fun w=>xD p (a%p) n w hp (Nat.mod_lt _ ie) hn)
 rw [<- Nat.pow_mod] at HS;clear hp ie hn;generalize a^n%p=r at *;generalize a%p=x at *;unfold fv at *;have aa:Below w.heap.size w (w.alloc (.cells #[.int .u64 p] 175)):=(Below.refl _ _).alloc zR _;have kf:=Blk.new w 175 #[.int .u64 p];go_enter Tryz.func230,Tryz.ntmps230
 go_wp2_with fail
 refine (HV.out _).mono ?_;rintro e' w1 ⟨rfl,ya⟩;replace kf:=ea kf ya;replace aa:=ja aa ya;clear ya;have cf:=kf.cell;have lf:=kf.lt;go_wp2_with fail
 refine xd (Bb) (pa) [] [] [0,1,2,3,4,5,6] (by kernel_rfl) (by kernel_rfl) ?_
 refine yd (pa) ?_;intro Wc da;refine Uc ?_;refine Jb (pa) rfl rfl rfl rfl (fun _ _ _ h=>h) (fun _=>by go_simp <;> rfl) (fun w' hR=>HA.out _) ?_
 simp only [Act.put,zLa,zLb,zLc];refine Uc ?_;refine Jb (pa) rfl rfl rfl rfl (fun _ _ _ h=>h) (fun _=>by go_simp <;> rfl) (fun w' hR=>HS.out _) ?_
 simp only [Act.put,zLa,zLb,zLc];refine Uc ?_;refine im rfl ?_;intro wd Rc;replace da:=(pa).trans _ _ _ da Rc;clear Rc;go_wp2;go_ret
 exact ⟨rfl,ja aa.drew da⟩
theorem lH (p a:Nat) (w:World) (hp:Db p=true) :
  Calls Tryz.prog 181 #[fv p, .int .u64 a] w fun e w'=>e= .returned (.int .u64 ((a^(p-2)%p:Nat):Int)) /\ Below w.heap.size w w':=by
 obtain ⟨Pd,Lb⟩:=nc hp;have HV:=zH (fun w=>Pj p w hp)
 have HA:=zH (fun w=>ot p a w (by omega))
 have HS:=zH (fun w=>xD p (a%p) (p-2) w hp (Nat.mod_lt _ (by omega)) (by omega))
 have e1:IntKind.u64.wrap ((p:Int)-2)=((p-2:Nat):Int):=Yn p 2 (by omega) Lb
 have e2:(p:Int)-2=((p-2:Nat):Int):=by omega
 have e3:IntKind.u64.wrap ((p-2:Nat):Int)=((p-2:Nat):Int):=pg _ (by omega)
 rw [<- Nat.pow_mod] at HS;clear hp Pd Lb;generalize a^(p-2)%p=r at *;generalize a%p=x at *;generalize p-2=m at *;unfold fv at *;have aa:Below w.heap.size w (w.alloc (.cells #[.int .u64 p] 175)):=(Below.refl _ _).alloc zR _;have kf:=Blk.new w 175 #[.int .u64 p];go_enter Tryz.func181,Tryz.ntmps181
 go_wp2_with fail
 refine (HV.out _).mono ?_;rintro e' w1 ⟨rfl,ya⟩;replace kf:=ea kf ya;replace aa:=ja aa ya;clear ya;have cf:=kf.cell;have lf:=kf.lt;go_wp2_with fail
 refine xd (Bb) (pa) [] [] [0,1,2,3,4,5,6,7,8] (by kernel_rfl) (by kernel_rfl) ?_
 refine yd (pa) ?_;intro Wc da;refine Uc ?_;refine Jb (pa) rfl rfl rfl rfl (fun _ _ _ h=>h) (fun _=>by go_simp <;> rfl) (fun w' hR=>HA.out _) ?_
 simp only [Act.put,zLa,zLb,zLc];refine Uc ?_;refine Jb (pa) rfl rfl rfl rfl (fun _ _ _ h=>h) (fun _=>by go_simp <;> rfl) (fun w' hR=>HS.out _) ?_
 simp only [Act.put,zLa,zLb,zLc];refine Uc ?_;refine im rfl ?_;intro wd Rc;replace da:=(pa).trans _ _ _ da Rc;clear Rc;go_wp2;go_ret
 exact ⟨rfl,ja aa.drew da⟩
def xg (p a:Nat):Nat:=if a%p=0 then 0 else p-a%p
theorem mH (p a:Nat) (w:World) (hp:Db p=true) :
  Calls Tryz.prog 118 #[fv p, .int .u64 a] w fun e w'=>e= .returned (.int .u64 (xg p a:Int)) /\ Below w.heap.size w w':=by
 obtain ⟨Pd,Lb⟩:=nc hp;have HA:=zH (fun w=>KA p a w hp)
 have hx:a%p<p:=Nat.mod_lt _ (by omega)
 have HN:=zH (show xg p a=if a%p=0 then 0 else p-a%p from rfl)
 clear hp;generalize xg p a=r at *;generalize a%p=x at *;by_cases h0:x=0
 ·have HR:=zH (show r=0 by rw [HN.out,if_pos h0])
  subst h0;unfold fv at *;have aa:Below w.heap.size w (w.alloc (.cells #[.int .u64 p] 175)):=(Below.refl _ _).alloc zR _;have kf:=Blk.new w 175 #[.int .u64 p];go_enter Tryz.func118,Tryz.ntmps118
  go_wp2_with fail
  refine (HA.out _).mono ?_;rintro e' w1 ⟨rfl,ya⟩;go_wp2;go_ret
  exact ⟨by rw [HR.out];rfl,ja aa ya⟩
 ·have HR:=zH (show r=p-x by rw [HN.out,if_neg h0])
  have d1:((x:Int) == 0)=false:=by rw [beq_eq_false_iff_ne];omega
  have e1:IntKind.u64.wrap ((p:Int)-(x:Int))=((p-x:Nat):Int):=Yn p x (by omega) Lb
  rw [HR.out];clear hx Pd Lb h0 HR HN;generalize p-x=z at *;unfold fv at *;have aa:Below w.heap.size w (w.alloc (.cells #[.int .u64 p] 175)):=(Below.refl _ _).alloc zR _;have kf:=Blk.new w 175 #[.int .u64 p];go_enter Tryz.func118,Tryz.ntmps118
  go_wp2_with fail
  refine (HA.out _).mono ?_;rintro e' w1 ⟨rfl,ya⟩;replace kf:=ea kf ya;have cf:=kf.cell;go_wp2;go_ret
  exact ⟨rfl,ja aa ya⟩
theorem LA (p a b:Nat) (w:World) (hp:Db p=true) :
  Calls Tryz.prog 173 #[fv p, .int .u64 a, .int .u64 b] w fun e w'=>e= .returned (.int .u64 (((a+xg p b)%p:Nat):Int)) /\ Below w.heap.size w w':=by
 have HN:=zH (fun w=>mH p b w hp)
 have HS:=zH (fun w=>Wi p a (xg p b) w hp)
 clear hp;generalize (a+xg p b)%p=r at *;generalize xg p b=x at *;unfold fv at *;have aa:Below w.heap.size w (w.alloc (.cells #[.int .u64 p] 175)):=(Below.refl _ _).alloc zR _;have kf:=Blk.new w 175 #[.int .u64 p];go_enter Tryz.func173,Tryz.ntmps173
 have cf:=kf.cell;have lf:=kf.lt;go_wp2_with fail
 refine xd (Bb) (pa) [] [] [0,1,2,3,4,5,6] (by kernel_rfl) (by kernel_rfl) ?_
 refine yd (pa) ?_;intro Wc da;refine Uc ?_;refine Jb (pa) rfl rfl rfl rfl (fun _ _ _ h=>h) (fun _=>by go_simp <;> rfl) (fun w' hR=>HN.out _) ?_
 simp only [Act.put,zLa,zLb,zLc];refine Uc ?_;refine Jb (pa) rfl rfl rfl rfl (fun _ _ _ h=>h) (fun _=>by go_simp <;> rfl) (fun w' hR=>HS.out _) ?_
 simp only [Act.put,zLa,zLb,zLc];refine Uc ?_;refine im rfl ?_;intro wd Rc;replace da:=(pa).trans _ _ _ da Rc;clear Rc;go_wp2;go_ret
 exact ⟨rfl,ja aa.drew da⟩
structure St where
 a:Nat
 b:Nat
 c:Nat
def St.val (s:St):Value:=.agg #[.int .u64 s.a, .int .u64 s.b, .int .u64 s.c]
def St.cs (s:St):Array Value:=#[.int .u64 s.a, .int .u64 s.b, .int .u64 s.c]
def St.ok (s:St):Prop:=s.a<18446744073709551616 /\ s.b<18446744073709551616 /\ s.c<18446744073709551616
def dk (k:Nat):Nat:=k*11400714819323198485%18446744073709551616
def Ui (p r i:Nat):Nat:=dk (3*r+i+1)%p
def Gh (p:Nat) (s:St):Nat:=((s.a+s.b)%p+s.c)%p
def Lr (p:Nat) (s:St):St:=⟨(s.a+Gh p s)%p,(s.b+Gh p s)%p,(s.c+Gh p s)%p⟩
theorem eQ (p r i:Nat) (w:World) (hp:Db p=true) (hr:r<8) (hi:i<3) :
  Calls Tryz.prog 231 #[.int .u64 p, .int .i64 r, .int .i64 i] w fun e w'=>e= .returned (.int .u64 (Ui p r i:Int)) /\ Below w.heap.size w w':=by
 have HR:=zH (fun w=>KA p (dk (3*r+i+1)) w hp)
 have HC:=zH (show Ui p r i=dk (3*r+i+1)%p from rfl)
 rw [HC.out];clear HC hp;obtain ⟨k,hk⟩:=zEX (3*r+i+1);rw [<- hk] at HR |-;have g1:(r:Int)<8:=by omega
 have g2:(i:Int) <= 2:=by omega
 have e1:3*(r:Int)+(i:Int)+1=(k:Int):=by omega
 have e2:IntKind.u64.wrap (k:Int)=(k:Int):=pg _ (by omega)
 have e3:IntKind.u64.wrap ((k:Int)*11400714819323198485)=(dk k:Int):=by
  rw [IntKind.wrap_u64];have:((k:Int)*11400714819323198485)=((k*11400714819323198485:Nat):Int):=by rw [Int.natCast_mul];rfl
  rw [this]
  rfl
 clear hk hr hi;generalize dk k%p=m at *;generalize dk k=z at *;unfold fv at *;go_enter Tryz.func231,Tryz.ntmps231
 go_wp2_with fail
 refine (HR.out _).mono ?_;rintro e w1 ⟨rfl,hb⟩;go_wp2;go_ret
 exact ⟨rfl,hb⟩
theorem jQ (p:Nat) (s:St) (w:World) (hp:Db p=true) :
  Calls Tryz.prog 232 #[.int .u64 p,s.val] w fun e w'=>e= .returned (Lr p s).val /\ Below w.heap.size w w':=by
 obtain ⟨a,b,c⟩:=s;have H1:=zH (fun w=>Wi p a b w hp)
 have H2:=zH (fun w=>Wi p ((a+b)%p) c w hp)
 have H3:=zH (fun w=>Wi p a (Gh p ⟨a,b,c⟩) w hp)
 have H4:=zH (fun w=>Wi p b (Gh p ⟨a,b,c⟩) w hp)
 have H5:=zH (fun w=>Wi p c (Gh p ⟨a,b,c⟩) w hp)
 have HM:=zH (show (Lr p ⟨a,b,c⟩).val= .agg #[.int .u64 (((a+Gh p ⟨a,b,c⟩)%p:Nat):Int), .int .u64 (((b+Gh p ⟨a,b,c⟩)%p:Nat):Int), .int .u64 (((c+Gh p ⟨a,b,c⟩)%p:Nat):Int)] from rfl)
 rw [HM.out];have HS:=zH (show ((a+b)%p+c)%p=Gh p ⟨a,b,c⟩ from rfl)
 rw [HS.out] at H2;clear HM HS hp;generalize (a+Gh p ⟨a,b,c⟩)%p=x at *;generalize (b+Gh p ⟨a,b,c⟩)%p=y at *;generalize (c+Gh p ⟨a,b,c⟩)%p=z at *;generalize Gh p ⟨a,b,c⟩=m at *;generalize (a+b)%p=ab at *;unfold St.val;unfold fv at *;simp only;obtain ⟨k1,k2,k3,aa,Ra⟩:=Bl w 237 237 175 #[.int .u64 a, .int .u64 b, .int .u64 c] #[.int .u64 0, .int .u64 0, .int .u64 0] #[.int .u64 p];go_enter Tryz.func232,Tryz.ntmps232
 go_wp2_with fail
 generalize ((w.alloc _).alloc _).alloc _=w0 at k1 k2 k3 aa Ra |-;have c1:=k1.cell;have c3:=k3.cell;have l1:=k1.lt;have l3:=k3.lt;refine xd (Bb) (pa) [] [] [0,1,2,3,4,5,6,7,8,9,10] (by kernel_rfl) (by kernel_rfl) ?_
 refine yd (pa) ?_;intro Wc da;refine Uc ?_;refine Jb (pa) rfl rfl rfl rfl (fun _ _ _ h=>h) (fun _=>by go_simp <;> rfl) (fun w' hR=>H1.out _) ?_
 simp only [Act.put,zLa,zLb,zLc];refine Uc ?_;refine Jb (pa) rfl rfl rfl rfl (fun _ _ _ h=>h) (fun _=>by go_simp <;> rfl) (fun w' hR=>H2.out _) ?_
 simp only [Act.put,zLa,zLb,zLc];refine Uc ?_;refine im rfl ?_;intro wd Rc;replace da:=(pa).trans _ _ _ da Rc;clear Rc;replace k1:=k1.drew.below da k1.lt;replace k2:=k2.drew.below da k2.lt;replace k3:=k3.drew.below da k3.lt;replace aa:=ja aa.drew da;have hsw:w.heap.size+1<wd.heap.size:=k2.lt;clear c1 c3 l1 l3 da Ra H1 H2;have c1:=k1.cell;have c3:=k3.cell;have l1:=k1.lt;have l3:=k3.lt;go_wp2_with fail
 refine xd (Bb) (pa) [16] [16] [0,1,2,3,4,5,6,7,8,9,10,11,12,13,14,15,16] (by kernel_rfl) (by kernel_rfl) ?_
 refine yd (pa) ?_;intro Wc da;refine Qb ?_;refine Jb (pa) rfl rfl rfl rfl (fun _ _ _ h=>h) (fun _=>by go_simp <;> rfl) (fun w' hR=>H3.out _) ?_
 simp only [Act.put,zLa,zLb,zLc];refine Qb ?_;refine Jb (pa) rfl rfl rfl rfl (fun _ _ _ h=>h) (fun _=>by go_simp <;> rfl) (fun w' hR=>H4.out _) ?_
 simp only [Act.put,zLa,zLb,zLc];refine Qb ?_;refine Jb (pa) rfl rfl rfl rfl (fun _ _ _ h=>h) (fun _=>by go_simp <;> rfl) (fun w' hR=>H5.out _) ?_
 simp only [Act.put,zLa,zLb,zLc];refine Qb ?_;refine Hf rfl rfl rfl rfl ?_;intro wh xb;replace da:=(pa).trans _ _ _ da xb;replace k2:=k2.drew.below da k2.lt;replace aa:=ja aa.drew da;have c2:=k2.cell;have f2:=k2.frozen;have l2:=k2.lt;go_simp;refine ⟨fun h=>Bool.noConfusion h,?_⟩
 have hg:=Ki (w:=wh) (g:=w.heap.size+1) (.int .u64 x) (.int .u64 y) (.int .u64 z);have kz:=Ji k2 (.int .u64 x) (.int .u64 y) (.int .u64 z);clear c2 f2 k2;generalize ((World.setCell wh _ _).setCell _ _).setCell _ _=Wf at hg kz |-;have cz:=kz.cell;refine Uf rfl ?_;go_wp2;exact bodyPost_ret (v:=.agg #[.int .u64 x, .int .u64 y, .int .u64 z]) (by simp [results,Tryz.results232,go_sem,cz]) rfl ⟨rfl,aa.trans (Nh hg (by omega) (by omega))⟩
def Dj (p r i x:Nat):Nat:=((x+Ui p r i)%p)^(Yc p).2.2%p
def St.at_ (s:St) (i:Nat):Nat:=if i=0 then s.a else if i=1 then s.b else s.c
def dm (f:Nat -> Nat -> Nat) (s:St):Nat -> St
 | 0=>s
 | 1=>⟨f 0 s.a,s.b,s.c⟩
 | 2=>⟨f 0 s.a,f 1 s.b,s.c⟩
 | _=>⟨f 0 s.a,f 1 s.b,f 2 s.c⟩
def dS (p r:Nat) (s:St):St:=Lr p (dm (Dj p r) s 3)
def Ii (p:Nat) (s:St):Nat -> St
 | 0=>s
 | r+1=>dS p r (Ii p s r)
def zj (p:Nat) (s:St):St:=Ii p s 8
theorem St.cs_at (s:St) {i:Nat} (h:i<3):s.cs[i]?=some (.int .u64 (s.at_ i:Int)):=by
 rcases (show i=0 \/ i=1 \/ i=2 by omega) with rfl | rfl | rfl <;> rfl
theorem uK (f:Nat -> Nat -> Nat) (s:St) {i:Nat} (h:i<3):(dm f s i).at_ i=s.at_ i:=by
 rcases (show i=0 \/ i=1 \/ i=2 by omega) with rfl | rfl | rfl <;> rfl
theorem vK (f:Nat -> Nat -> Nat) (s:St) {i:Nat} (h:i<3):(dm f s i).cs.setIfInBounds i (.int .u64 (f i (s.at_ i):Int))=(dm f s (i+1)).cs:=by
 rcases (show i=0 \/ i=1 \/ i=2 by omega) with rfl | rfl | rfl <;> simp [dm,St.cs,St.at_]
theorem aK {p:Nat} (h:Db p=true):(Yc p).1<18446744073709551616 /\ (Yc p).2.2<18446744073709551616:=by
 rcases Hw h with rfl | rfl | rfl | rfl | rfl | rfl | rfl <;> exact ⟨by decide,by decide⟩
theorem pQ (p:Nat) (s:St) (w:World) (hp:Db p=true) :
  Calls Tryz.prog 200 #[.int .u64 p,s.val] w fun e w'=>e= .returned (zj p s).val /\ Below w.heap.size w w':=by
 have HV:=zH (fun w=>Pj p w hp)
 have HE:=zH (fun w=>IM p w hp)
 have HC:=zH (fun r i w hr hi=>eQ p r i w hp hr hi)
 have HA:=zH (fun a b w=>Wi p a b w hp)
 have HP:=zH (fun a n w hn=>JM p a n w hp hn)
 have HM:=zH (fun s w=>jQ p s w hp)
 have zi:=(aK hp).2;have HSB:=zH (show ∀ r i x,Dj p r i x=((x+Ui p r i)%p)^(Yc p).2.2%p from fun _ _ _=>rfl)
 clear hp;unfold fv at *;generalize (Yc p).2.2=ex at *;have Iu:=zH zi;clear zi;obtain ⟨k1,k2,k3,aa,Ra⟩:=Bl w 237 237 175 s.cs #[.int .u64 0, .int .u64 0, .int .u64 0] #[.int .u64 p];have HPO:=zH (show (zj p s).val=(Ii p s 8).val from rfl)
 rw [HPO.out];clear HPO;unfold St.cs at k1 k2 k3 aa Ra;have ev:s.val= .agg #[.int .u64 s.a, .int .u64 s.b, .int .u64 s.c]:=rfl;rw [ev];clear ev;go_enter Tryz.func200,Tryz.ntmps200
 go_wp2_with fail
 generalize ((w.alloc _).alloc _).alloc _=w0 at k1 k2 k3 aa Ra |-;refine (HV.out _).mono ?_;rintro e w1 ⟨rfl,ya⟩;replace k1:=ea k1 ya;replace k2:=ea k2 ya;replace k3:=ea k3 ya;replace aa:=ja aa ya;clear ya Ra;have c3:=k3.cell;go_wp2_with fail
 refine (HE.out _).mono ?_;rintro e w2 ⟨rfl,xa⟩;replace k1:Blk w2 w.heap.size 237 (Ii p s 0).cs:=ea k1 xa;replace k2:=ea k2 xa;replace k3:=ea k3 xa;replace aa:=ja aa xa;clear xa c3 HV HE;go_wp2_with fail
 go_loopw [17] (fun i wr=>∃ r:Nat,r <= 8 /\ i= .int .i64 r /\ Blk wr w.heap.size 237 (Ii p s r).cs /\ Blk wr (w.heap.size+1) 237 #[.int .u64 0, .int .u64 0, .int .u64 0] /\ Blk wr (w.heap.size+1+1) 175 #[.int .u64 p] /\ Below w.heap.size w wr) (fun i _=>8-(intOf i).toNat)
 case atStart=>exact ⟨0,Nat.zero_le _,rfl,k1,k2,k3,aa⟩
 case round =>
  clear k1 k2 k3 aa;obtain ⟨r,hr,rfl,k1,k2,k3,aa⟩:=hrel;by_cases oa:r<8
  ·have g1:(r:Int)<8:=by omega
   obtain ⟨t,ht⟩:=zEX (Ii p s r);rw [<- ht] at k1;have HT:=zH (show Ii p s (r+1)=Lr p (dm (Dj p r) t 3) by rw [Ii,<- ht];rfl)
   clear ht;go_wp2_with fail
   go_loopw [20] (fun i wr=>∃ m:Nat,m <= 3 /\ i= .int .i64 m /\ Blk wr w.heap.size 237 (dm (Dj p r) t m).cs /\ Blk wr (w.heap.size+1) 237 #[.int .u64 0, .int .u64 0, .int .u64 0] /\ Blk wr (w.heap.size+1+1) 175 #[.int .u64 p] /\ Below w.heap.size w wr) (fun i _=>3-(intOf i).toNat)
   case atStart=>exact ⟨0,Nat.zero_le _,rfl,k1,k2,k3,aa⟩
   case round =>
    clear k1 k2 k3 aa;obtain ⟨m,hm,rfl,k1,k2,k3,aa⟩:=hrel;by_cases Xc:m<3
    ·have g2:(m:Int)<3:=by omega
     have cm:=k1.cell m;rw [St.cs_at _ Xc,uK _ _ Xc] at cm;have wy:=zH (vK (Dj p r) t Xc);have BW:=zH (HSB.out r m (t.at_ m));have Bg:=zH (fun w=>HC.out r m w oa Xc)
     have Zc:=zH (fun w=>HA.out (t.at_ m) (Ui p r m) w)
     have oq:=zH (fun w=>HP.out ((t.at_ m+Ui p r m)%p) ex w Iu.out)
     rw [<- BW.out] at oq;clear BW;generalize Dj p r m (t.at_ m)=sv at *;generalize (t.at_ m+Ui p r m)%p=av at *;generalize Ui p r m=cv at *;generalize t.at_ m=xv at *;have c3:=k3.cell;have l1:=k1.lt;have l3:=k3.lt;go_wp2_with fail
     refine xd (Bb) (pa) [14] [14] [0,1,2,3,4,5,6,7,8,9,10,11,12,13,14] (by kernel_rfl) (by kernel_rfl) ?_
     refine yd (pa) ?_;intro Wc da;refine Qb ?_;refine Jb (pa) rfl rfl rfl rfl (fun _ _ _ h=>h) (fun _=>by go_simp <;> rfl) (fun w' hR=>Bg.out _) ?_
     simp only [Act.put,zLa,zLb,zLc];refine Qb ?_;refine Jb (pa) rfl rfl rfl rfl (fun _ _ _ h=>h) (fun _=>by go_simp <;> rfl) (fun w' hR=>Zc.out _) ?_
     simp only [Act.put,zLa,zLb,zLc];refine Qb ?_;refine Jb (pa) rfl rfl rfl rfl (fun _ _ _ h=>h) (fun _=>by go_simp <;> rfl) (fun w' hR=>oq.out _) ?_
     simp only [Act.put,zLa,zLb,zLc];refine Qb ?_;refine Hf rfl rfl rfl rfl ?_;intro wh xb;replace da:=(pa).trans _ _ _ da xb;replace k1:=k1.drew.below da k1.lt;replace k2:=k2.drew.below da k2.lt;replace k3:=k3.drew.below da k3.lt;replace aa:=ja aa.drew da;have f1:=k1.frozen m;have cm2:wh.cell? ⟨w.heap.size,m,none⟩=some (.int .u64 xv):=PG da cm;clear c3 l1 l3 cm;go_simp;refine ⟨fun h=>Bool.noConfusion h,?_⟩
     have hg:wh.grownBy (wh.setCell ⟨w.heap.size,m,none⟩ (.int .u64 sv)) (some w.heap.size):=Yd (p:=⟨w.heap.size,m,none⟩) (Lc wh _) (.inl rfl) _;replace k1:=k1.set_ m (.int .u64 sv);rw [wy.out] at k1;replace k2:=k2.grown hg (fun e=>by have:=Option.some.inj e;omega)
     replace k3:=k3.grown hg (fun e=>by have:=Option.some.inj e;omega)
     replace aa:=aa.trans (Nh hg aa.size zR);clear hg f1 cm2;generalize wh.setCell _ _=Wf at k1 k2 k3 aa |-;refine Uf rfl ?_;go_wp2
     go_roundw
     case rel=>exact ⟨m+1,by omega,by go_num,k1,k2,k3,aa⟩
     case measure=>simp [intOf];omega
    ·obtain rfl:m=3:=by omega
     obtain ⟨q,hq⟩:=zEX (dm (Dj p r) t 3);rw [<- hq] at k1 HT;clear hq;have Bd:Blk wr w.heap.size 237 #[.int .u64 q.a, .int .u64 q.b, .int .u64 q.c]:=k1;obtain ⟨z,hz⟩:=zEX (Lr p q);rw [<- hz] at HT;have ke:=zH (show ∀ w,Calls Tryz.prog 232 #[.int .u64 p, .agg #[.int .u64 q.a, .int .u64 q.b, .int .u64 q.c]] w fun e w'=>e= .returned (.agg #[.int .u64 z.a, .int .u64 z.b, .int .u64 z.c]) /\ Below w.heap.size w w' from fun w=>by rw [hz];exact HM.out q w)
     clear hz k1;have c1:=Bd.cell;go_wp2_with fail
     refine (ke.out _).mono ?_;rintro e w5 ⟨rfl,Ma⟩;replace Bd:=Bd.below Ma Bd.lt;replace k2:=ea k2 Ma;replace k3:=ea k3 Ma;replace aa:=ja aa Ma;clear Ma c1;have c1:=Bd.cell;have f1:=Bd.frozen;go_wp2_with fail
     have hg:=Ki (w:=w5) (g:=w.heap.size) (.int .u64 z.a) (.int .u64 z.b) (.int .u64 z.c);have kz:=Ji Bd (.int .u64 z.a) (.int .u64 z.b) (.int .u64 z.c);replace k2:=k2.grown hg (fun e=>by have:=Option.some.inj e;omega)
     replace k3:=k3.grown hg (fun e=>by have:=Option.some.inj e;omega)
     replace aa:=aa.trans (Nh hg aa.size zR);clear hg c1 f1 Bd;generalize ((World.setCell w5 _ _).setCell _ _).setCell _ _=Wf at kz k2 k3 aa |-
     go_roundw
     case rel=>exact ⟨r+1,by omega,by go_num,by rw [HT.out];exact kz,k2,k3,aa⟩
     case measure=>simp [intOf];omega
  ·obtain rfl:r=8:=by omega
   obtain ⟨q,hq⟩:=zEX (Ii p s 8);rw [<- hq] at k1;have HQ:=zH hq;clear hq;have Bd:Blk wr w.heap.size 237 #[.int .u64 q.a, .int .u64 q.b, .int .u64 q.c]:=k1;have c1:=Bd.cell;have c2:=k2.cell;have f2:=k2.frozen;go_wp2_with fail
   have hg:=Ki (w:=wr) (g:=w.heap.size+1) (.int .u64 q.a) (.int .u64 q.b) (.int .u64 q.c);have kz:=Ji k2 (.int .u64 q.a) (.int .u64 q.b) (.int .u64 q.c);clear c1 c2 f2 k2;generalize ((World.setCell wr _ _).setCell _ _).setCell _ _=Wf at hg kz |-;have cz:=kz.cell;have hs:=aa.size;exact bodyPost_ret (v:=.agg #[.int .u64 q.a, .int .u64 q.b, .int .u64 q.c]) (by simp [results,Tryz.results200,go_sem,cz]) rfl ⟨by rw [<- HQ.out];rfl,aa.trans (Nh hg hs (by omega))⟩
end Go.Proofs.YtjipleoamlmkfaaGreat
