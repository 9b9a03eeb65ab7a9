/- A part of the proof. No condition. -/
import Derived.Test.YtgeofabpinfcmaaGreatProg
import Derived.Test.YtgeofabpinfcmaaGreatEZ7
import Derived.Test.YtgeofabpinfcmaaGreatEZ6

set_option maxRecDepth 100000
set_option maxHeartbeats 8000000
set_option linter.unusedVariables false
set_option linter.unusedSimpArgs false
namespace Go.Proofs.YtgeofabpinfcmaaGreat
open Go.RowKit
theorem oI (p a e:Nat) (w:World) (hp:ab p=true) (he:e<18446744073709551616) :
  Calls Tryz.prog 250 #[.int .u64 p, .int .u64 a, .int .u64 e] w fun e' w'=>e'= .returned (.int .u64 ((a^e%p:Nat):Int)) /\ Below w.heap.size w w':=by
 obtain ⟨jc,Kb⟩:=Va hp;have HO:=zH (fun w=>by have:=Ul p w Kb;rw [hp] at this;exact this)
 have HM:=zH (fun a b w=>Rn p a b w hp)
 obtain ⟨n,hn⟩:=zEX (a^e%p);rw [<- hn];have HI:=zH (show 1*(a%p)^e%p=n by rw [Nat.one_mul,<- Nat.pow_mod,hn])
 have HP:=zH jc;have p1:(0:Int)<(p:Int):=by omega
 have e1:(a:Int)%(p:Int)=((a%p:Nat):Int):=rfl;have e2:(a:Int).tmod (p:Int)=((a%p:Nat):Int):=rfl;have p3:¬(p=0):=by omega
 clear hn hp jc Kb;generalize a%p=a0 at *;go_enter Tryz.func250,Tryz.ntmps250
 go_wp2_with fail
 refine (HO.out _).mono ?_;rintro e' w1 ⟨rfl,da⟩;go_wp2_with fail
 clear e1 e2;go_loopw [1,2,7] (fun x y z wr=>∃ a' e' r:Nat,x= .int .u64 a' /\ y= .int .u64 e' /\ z= .int .u64 r /\ r<p /\ e'<18446744073709551616 /\ Hid (r*a'^e'%p=n) /\ Below w.heap.size w wr) (fun _ y _ _=>(intOf y).toNat)
 case atStart=>exact ⟨a0,e,1,rfl,rfl,rfl,by have:=HP.out;omega,he,HI.out,da⟩
 case round =>
  clear da;obtain ⟨a',e',r,rfl,rfl,rfl,Uw,Ew,H,Qa⟩:=hrel;by_cases h0:e'=0
  ·subst h0
   have HE:=zH (show r=n by have:=H.out;rw [Nat.pow_zero,Nat.mul_one,Nat.mod_eq_of_lt Uw] at this;exact this)
   go_wp2;go_ret
   exact ⟨by rw [HE.out];rfl,Qa⟩
  ·have g1:(0:Int)<(e':Int):=by omega
   obtain ⟨f,hf⟩:=zEX (e' / 2);have e1:(e':Int) / 2=(f:Int):=by omega
   have e2:(e':Int).tdiv 2=(f:Int):=by rw [Int.tdiv_eq_ediv_of_nonneg (by omega)];exact e1
   have HQ:=zH (fun w=>HM.out a' a' w)
   rcases (show e'%2=1 \/ e'%2=0 by omega) with Xp | Xp
   ·have eb:(e':Int)%2=1:=by omega
    have ec:(e':Int).tmod 2=1:=by rw [Int.tmod_eq_emod_of_nonneg (by omega)];exact eb
    have HF:=zH hf;have yd:=zH (fun w=>HM.out r a' w)
    have HX:=JR p r a' e' n H.out Xp;rw [<- hf] at HX;have xi:r*a'%p<p:=Nat.mod_lt _ (by have:=HP.out;omega)
    generalize r*a'%p=s at *;generalize a'*a'%p=q at *;replace HX:=zH HX;clear Xp hf;go_wp2_with fail
    refine (yd.out _).mono ?_;rintro e w1 ⟨rfl,Ga⟩;replace Qa:=Uh Qa Ga Qa.size;clear Ga;go_wp2_with fail
    refine (HQ.out _).mono ?_;rintro e w2 ⟨rfl,Ka⟩;replace Qa:=Uh Qa Ka Qa.size;go_wp2
    go_roundw
    case rel=>exact ⟨q,f,s,rfl,rfl,rfl,xi,by have:=HF.out;omega,HX.out,Qa⟩
    case measure=>have:=HF.out;simp [intOf];omega
   ·have eb:(e':Int)%2=0:=by omega
    have ec:(e':Int).tmod 2=0:=by rw [Int.tmod_eq_emod_of_nonneg (by omega)];exact eb
    have HF:=zH hf;have HX:=GR p r a' e' n H.out Xp;rw [<- hf] at HX;generalize a'*a'%p=q at *;replace HX:=zH HX;clear Xp hf;go_wp2_with fail
    refine (HQ.out _).mono ?_;rintro e w2 ⟨rfl,Ka⟩;replace Qa:=Uh Qa Ka Qa.size;go_wp2
    go_roundw
    case rel=>exact ⟨q,f,r,rfl,rfl,rfl,Uw,by have:=HF.out;omega,HX.out,Qa⟩
    case measure=>have:=HF.out;simp [intOf];omega
theorem aX {w:World} {a b c:Value}:(Instr.index 214 (.agg #[a,b,c]) (.int .i64 2)).run Tryz.prog w= .ok c w :=
 FI (i:=2) Tryz.underlying214 cO jT (by omega) rfl
theorem zZ (p:Nat) (w:World) (hp:ab p=true) :
  Calls Tryz.prog 257 #[.int .u64 p] w fun e w'=>e= .returned (.int .u64 ((tb p).2.2:Int)) /\ Below w.heap.size w w':=by
 have HR:=zH (KM p w (Va hp).2);clear hp;unfold pE at HR;generalize (tb p).1=a at *;generalize (tb p).2.1=b at *;generalize (tb p).2.2=c at *;go_enter Tryz.func257,Tryz.ntmps257
 go_wp2_with (go_at_call 134;refine HR.out.mono ?_;rintro e w1 ⟨rfl,hb⟩)
 rw [aX,Result.andThen,Oper.upon_value];go_wp2;go_ret
 exact ⟨rfl,hb⟩
theorem eS (p:Nat) (w:World) (hp:ab p=true) :
  Calls Tryz.prog 183 #[.int .u64 p] w fun e w'=>e= .returned (.int .u64 ((tb p).1:Int)) /\ Below w.heap.size w w':=by
 have HR:=zH (KM p w (Va hp).2);clear hp;unfold pE at HR;generalize (tb p).1=a at *;generalize (tb p).2.1=b at *;generalize (tb p).2.2=c at *;go_enter Tryz.func183,Tryz.ntmps183
 go_wp2_with (go_at_call 134;refine HR.out.mono ?_;rintro e w1 ⟨rfl,hb⟩)
 rw [ZP,Result.andThen,Oper.upon_value];go_wp2;go_ret
 exact ⟨rfl,hb⟩
def MI (p:Nat) (l:List Nat):Nat:=l.foldl (fun s x=>(s+x)%p) 0
theorem I0 (p:Nat) (A:Option Addr) (n c:Nat) (l:List Nat) (w:World) (hp:ab p=true) (hl:RWd w [.slice A n c] l) :
  Calls Tryz.prog 281 #[.int .u64 p, .slice A n c] w fun e w'=>e= .returned (.int .u64 (MI p l:Int)) /\ Below w.heap.size w w':=by
 obtain ⟨rfl,h1,h2,za,La⟩:=Ra hl;have gm:=Kf h1 h2;have HA:=zH (fun a b w=>Kr p a b w hp)
 have HS:=zH (show MI p l=l.foldl (fun s x=>(s+x)%p) 0 from rfl)
 rw [HS.out];clear HS hl h1 h2 hp za;go_enter Tryz.func281,Tryz.ntmps281
 go_wp2_with fail
 go_loopw [5,6] (fun y i wr=>∃ k:Nat,k <= l.length /\ i= .int .i64 k /\ y= .int .u64 (((l.take k).foldl (fun s x=>(s+x)%p) 0:Nat):Int) /\ Below w.heap.size w wr) (fun _ i _=>l.length-(intOf i).toNat)
 case atStart=>exact ⟨0,Nat.zero_le _,rfl,rfl,Below.refl _ _⟩
 case round =>
  obtain ⟨k,hk,rfl,rfl,Qa⟩:=hrel;by_cases za:k<l.length
  ·obtain ⟨b,q,rfl,Wb,hc⟩:=Vd (La.below Qa) za
   have HF:=zH (FX (fun s x=>(s+x)%p) 0 l k za)
   generalize l.getD k 0=y at *;generalize (l.take k).foldl (fun s x=>(s+x)%p) 0=s at *
   have Xd:=zH (fun w=>HA.out s y w)
   have Yz:=zH (show (l.take (k+1)).foldl (fun s x=>(s+x)%p) 0=(s+y)%p from HF.out)
   clear HF;generalize (s+y)%p=z at *;have g1:(0:Int) <= (k:Int):=by omega
   have g2:(k:Int)<(l.length:Int):=by omega
   go_wp2_with fail
   refine (Xd.out _).mono ?_;rintro e w1 ⟨rfl,Ga⟩;replace Qa:=Uh Qa Ga Qa.size;clear hc Ga;go_wp2
   go_roundw
   case rel=>exact ⟨k+1,by omega,by go_num,by rw [Yz.out],Qa⟩
   case measure=>simp [intOf];omega
  ·obtain rfl:k=l.length:=by omega
   rw [List.take_length];go_wp2;go_ret
   exact ⟨rfl,Qa⟩
theorem uZ (p r i:Nat) (w:World) (hp:ab p=true) (hr:r<8) (hi:i<3) :
  Calls Tryz.prog 256 #[.int .u64 p, .int .i64 r, .int .i64 i] w fun e w'=>e= .returned (.int .u64 (Cy p r i:Int)) /\ Below w.heap.size w w':=by
 obtain ⟨jc,Kb⟩:=Va hp;have HO:=zH (fun w=>by have:=Ul p w Kb;rw [hp] at this;exact this)
 have HC:=zH (show Cy p r i=sx (3*r+i+1)%p from rfl)
 rw [HC.out];clear HC hp;obtain ⟨k,hk⟩:=zEX (3*r+i+1);rw [<- hk];have g1:(r:Int) <= 7:=by omega
 have g2:(i:Int) <= 2:=by omega
 have e1:3*(r:Int)+(i:Int)+1=(k:Int):=by omega
 have e2:IntKind.u64.wrap (k:Int)=(k:Int):=pj _ (by omega)
 have e3:IntKind.u64.wrap ((k:Int)*11400714819323198485)=(sx k:Int):=by
  rw [IntKind.wrap_u64];have:((k:Int)*11400714819323198485)=((k*11400714819323198485:Nat):Int):=by rw [Int.natCast_mul];rfl
  rw [this]
  rfl
 have e4:(sx k:Int)%(p:Int)=((sx k%p:Nat):Int):=rfl;have e5:(sx k:Int).tmod (p:Int)=((sx k%p:Nat):Int):=rfl;have p1:(0:Int)<(p:Int):=by omega
 have p3:¬(p=0):=by omega
 clear hk hr hi;generalize sx k%p=m at *;generalize sx k=z at *;go_enter Tryz.func256,Tryz.ntmps256
 go_wp2_with fail
 refine (HO.out _).mono ?_;rintro e w1 ⟨rfl,hb⟩;go_wp2;go_ret
 exact ⟨rfl,hb⟩
def Tu (f:Nat -> Nat) (s:St):Nat -> St
 | 0=>⟨0,0,0⟩
 | 1=>⟨f s.a,0,0⟩
 | 2=>⟨f s.a,f s.b,0⟩
 | _=>⟨f s.a,f s.b,f s.c⟩
theorem qY (f:Nat -> Nat) (s:St) {i:Nat} (h:i<3):(Tu f s i).cs.setIfInBounds i (.int .u64 (f (s.at_ i):Int))=(Tu f s (i+1)).cs:=by
 rcases (show i=0 \/ i=1 \/ i=2 by omega) with rfl | rfl | rfl <;> simp [Tu,St.cs,St.at_]
theorem sum3 (p:Nat) (s:St):MI p [s.a,s.b,s.c]=JC p s:=by
 simp [MI,JC]
theorem St.lit (s:St):(Fa [s.a,s.b,s.c]).toArray=s.cs:=rfl
theorem LZ (p:Nat) (s:St) (w:World) (hp:ab p=true) (hs:s.ok) :
  Calls Tryz.prog 258 #[.int .u64 p,s.val] w fun e w'=>e= .returned (TF p s).val /\ Below w.heap.size w w':=by
 have HA:=zH (fun a b w=>Kr p a b w hp)
 have HR:=zH (show TF p s=Tu (fun x=>(x+JC p s)%p) s 3 from rfl)
 rw [HR.out];obtain ⟨k1,k2,k3,da,Nb⟩:=Oq w 214 214 22 #[.int .u64 s.a, .int .u64 s.b, .int .u64 s.c] #[.int .u64 0, .int .u64 0, .int .u64 0] #[.int .u64 s.a, .int .u64 s.b, .int .u64 s.c];have TP:RWd _ [.slice (some ⟨w.heap.size+1+1,0,none⟩) 3 3] [s.a,s.b,s.c]:=IC (l:=[s.a,s.b,s.c]) k3 (fun x hx=>by
  simp at hx
  rcases hx with rfl | rfl | rfl
  ·exact hs.1
  ·exact hs.2.1
  ·exact hs.2.2) (by simp [maxLen])
 have iy:=zH (I0 p _ 3 3 [s.a,s.b,s.c] _ hp TP);rw [sum3] at iy;clear HR TP hp hs k3;generalize hm:JC p s=m at *;clear hm;have ev:s.val= .agg #[.int .u64 s.a, .int .u64 s.b, .int .u64 s.c]:=rfl;rw [ev];clear ev;go_enter Tryz.func258,Tryz.ntmps258
 go_wp2_with fail
 generalize ((w.alloc _).alloc _).alloc _=w0 at k1 k2 da Nb iy |-;refine iy.out.mono ?_;rintro e w1 ⟨rfl,Ga⟩;replace k1:=ia k1 Ga;replace k2:=ia k2 Ga;replace da:=oa da Ga;have Jn:=Ga.size;clear Ga iy;have ma:=(Below.refl w1.heap.size w1).alloc zR (.cells #[.int .u64 0, .int .u64 0, .int .u64 0] 214);have k4:=Blk.new w1 214 #[.int .u64 0, .int .u64 0, .int .u64 0];replace k1:=ia k1 ma;replace k2:=ia k2 ma;replace da:=oa da ma;have xk:w.heap.size+1<w1.heap.size:=by omega
 clear ma
 go_upto_block 0 with fail
 generalize w1.alloc _=w2 at k1 k2 k4 da |-;generalize w1.heap.size=g at k4 xk |-;clear Jn;have k4':Blk w2 g 214 (Tu (fun x=>(x+m)%p) s 0).cs:=k4
 have Sk:Blk w2 w.heap.size 214 s.cs:=k1;clear k1 k4;go_wp2_with fail
 go_loopw [7] (fun i wr=>∃ k:Nat,k <= 3 /\ i= .int .i64 k /\ Blk wr w.heap.size 214 s.cs /\ Blk wr (w.heap.size+1) 214 #[.int .u64 0, .int .u64 0, .int .u64 0] /\ Blk wr g 214 (Tu (fun x=>(x+m)%p) s k).cs /\ Below w.heap.size w wr) (fun i _=>3-(intOf i).toNat)
 case atStart=>exact ⟨0,Nat.zero_le _,rfl,Sk,k2,k4',da⟩
 case round =>
  clear Sk k2 k4' da;obtain ⟨k,hk,rfl,k1,k2,k4,da⟩:=hrel;by_cases za:k<3
  ·have g1:(k:Int)<3:=by omega
   have cm:=k1.cell k;rw [St.cs_at _ za] at cm;obtain ⟨y,hy⟩:=zEX ((s.at_ k+m)%p);have zJ:=zH (show (Tu (fun x=>(x+m)%p) s k).cs.setIfInBounds k (.int .u64 y)=(Tu (fun x=>(x+m)%p) s (k+1)).cs from by rw [hy];exact qY (fun x=>(x+m)%p) s za)
   have Xd:=zH (fun w=>HA.out (s.at_ k) m w)
   rw [<- hy] at Xd;clear hy;have cz:=k4.cell k;rw [St.cs_at _ za] at cz;generalize (Tu (fun x=>(x+m)%p) s k).at_ k=old at cz
   generalize s.at_ k=x at *;go_wp2_with fail
   refine (Xd.out _).mono ?_;rintro e w3 ⟨rfl,ib⟩;have cz3:w3.cell? ⟨g,k,none⟩=some (.int .u64 old):=(Below.cell ib (World.block_lt_of_cell? _ _ cz)).trans cz;replace k1:=ia k1 ib;replace k2:=ia k2 ib;replace k4:=ia k4 ib;replace da:=oa da ib;have f4:=k4.frozen k;clear cz cm ib;go_wp2_with fail
   have hg:w3.grownBy (w3.setCell ⟨g,k,none⟩ (.int .u64 y)) (some g):=mh (p:=⟨g,k,none⟩) (Hf w3 _) (.inl rfl) _;replace k4:=k4.set_ k (.int .u64 y);rw [zJ.out] at k4;replace k1:=k1.grown hg (fun e=>by have:=Option.some.inj e;omega)
   replace k2:=k2.grown hg (fun e=>by have:=Option.some.inj e;omega)
   replace da:=Pb da hg;clear hg f4 cz3;generalize w3.setCell _ _=Wf at k1 k2 k4 da |-
   go_roundw
   case rel=>exact ⟨k+1,by omega,by go_num,k1,k2,k4,da⟩
   case measure=>simp [intOf];omega
  ·obtain rfl:k=3:=by omega
   obtain ⟨q,hq⟩:=zEX (Tu (fun x=>(x+m)%p) s 3)
   rw [<- hq] at k4;have HQ:=zH hq;clear hq;have k4':Blk wr g 214 #[.int .u64 q.a, .int .u64 q.b, .int .u64 q.c]:=k4;have c4:=k4'.cell;have c2:=k2.cell;have f2:=k2.frozen;go_wp2_with fail
   have hg:=vq (w:=wr) (g:=w.heap.size+1) (.int .u64 q.a) (.int .u64 q.b) (.int .u64 q.c);have kz:=Lr k2 (.int .u64 q.a) (.int .u64 q.b) (.int .u64 q.c);clear c4 c2 f2 k2;generalize ((World.setCell wr _ _).setCell _ _).setCell _ _=Wf at hg kz |-;have cz:=kz.cell;have hs:=da.size;exact bodyPost_ret (v:=.agg #[.int .u64 q.a, .int .u64 q.b, .int .u64 q.c]) (by simp [results,Tryz.results258,go_sem,cz]) rfl ⟨by rw [<- HQ.out];rfl,da.trans (Ff hg hs (by omega))⟩
theorem St.ok_of_lt {s:St} {p:Nat} (hp:p<18446744073709551616) (h1:s.a<p) (h2:s.b<p) (h3:s.c<p):s.ok:=⟨by omega,by omega,by omega⟩
theorem M4 {p:Nat} (h1:0<p) (r i x:Nat):Hx p r i x<p:=Nat.mod_lt _ h1
theorem kS (p:Nat) (s:St) (w:World) (hp:ab p=true) :
  Calls Tryz.prog 211 #[.int .u64 p,s.val] w fun e w'=>e= .returned (Gt p s).val /\ Below w.heap.size w w':=by
 obtain ⟨jc,Kb⟩:=Va hp;have HV:=zH (fun w=>by have:=Ul p w Kb;rw [hp] at this;exact this)
 have HE:=zH (fun w=>zZ p w hp)
 have HC:=zH (fun r i w hr hi=>uZ p r i w hp hr hi)
 have HA:=zH (fun a b w=>Kr p a b w hp)
 have HP:=zH (fun a n w hn=>oI p a n w hp hn)
 have HM:=zH (fun s w h=>LZ p s w hp h)
 have HSO:=zH (show ∀ (f:Nat -> Nat -> Nat) (t:St),(∀ i x,f i x<p) -> (Ix f t 3).ok from fun f t h=>St.ok_of_lt Kb (h 0 _) (h 1 _) (h 2 _))
 have Hk:=zH (show ∀ r i x,Hx p r i x<p from fun r i x=>M4 (by omega) r i x)
 have hel:=(L1 hp).2;have HSB:=zH (show ∀ r i x,Hx p r i x=((x+Cy p r i)%p)^(tb p).2.2%p from fun _ _ _=>rfl)
 clear hp jc Kb;generalize (tb p).2.2=ex at *;have HEL:=zH hel;clear hel;obtain ⟨k1,k2,da,Nb⟩:=Ue w 214 214 #[.int .u64 s.a, .int .u64 s.b, .int .u64 s.c] #[.int .u64 0, .int .u64 0, .int .u64 0];have cu:=zH (show (Gt p s).val=(zx p s 8).val from rfl)
 rw [cu.out];clear cu;have ev:s.val= .agg #[.int .u64 s.a, .int .u64 s.b, .int .u64 s.c]:=rfl;rw [ev];clear ev;go_enter Tryz.func211,Tryz.ntmps211
 go_wp2_with fail
 generalize (w.alloc _).alloc _=w0 at k1 k2 da Nb |-;refine (HV.out _).mono ?_;rintro e w2 ⟨rfl,Ka⟩;replace k1:Blk w2 w.heap.size 214 (zx p s 0).cs:=ia k1 Ka;replace k2:=ia k2 Ka;replace da:=oa da Ka;clear Ka Nb HV;go_wp2_with fail
 go_loopw [5] (fun i wr=>∃ r:Nat,r <= 8 /\ i= .int .i64 r /\ Blk wr w.heap.size 214 (zx p s r).cs /\ Blk wr (w.heap.size+1) 214 #[.int .u64 0, .int .u64 0, .int .u64 0] /\ Below w.heap.size w wr) (fun i _=>8-(intOf i).toNat)
 case atStart=>exact ⟨0,Nat.zero_le _,rfl,k1,k2,da⟩
 case round =>
  clear k1 k2 da;obtain ⟨r,hr,rfl,k1,k2,da⟩:=hrel;by_cases za:r<8
  ·have g1:(r:Int)<8:=by omega
   obtain ⟨t,ht⟩:=zEX (zx p s r);rw [<- ht] at k1;have HT:=zH (show zx p s (r+1)=TF p (Ix (Hx p r) t 3) by rw [zx,<- ht];rfl)
   clear ht;go_wp2_with fail
   go_loopw [6] (fun i wr=>∃ m:Nat,m <= 3 /\ i= .int .i64 m /\ Blk wr w.heap.size 214 (Ix (Hx p r) t m).cs /\ Blk wr (w.heap.size+1) 214 #[.int .u64 0, .int .u64 0, .int .u64 0] /\ Below w.heap.size w wr) (fun i _=>3-(intOf i).toNat)
   case atStart=>exact ⟨0,Nat.zero_le _,rfl,k1,k2,da⟩
   case round =>
    clear k1 k2 da;obtain ⟨m,hm,rfl,k1,k2,da⟩:=hrel;by_cases Nw:m<3
    ·have g2:(m:Int)<3:=by omega
     have cm:=k1.cell m;rw [St.cs_at _ Nw,I5 _ _ Nw] at cm;have zJ:=zH (J5 (Hx p r) t Nw);have HSV:=zH (HSB.out r m (t.at_ m));have Ye:=zH (fun w=>HC.out r m w za Nw)
     have Xd:=zH (fun w=>HA.out (t.at_ m) (Cy p r m) w)
     have jl:=zH (fun w=>HP.out ((t.at_ m+Cy p r m)%p) ex w HEL.out)
     rw [<- HSV.out] at jl;clear HSV;generalize Hx p r m (t.at_ m)=sv at *;generalize (t.at_ m+Cy p r m)%p=av at *;generalize Cy p r m=cv at *;generalize t.at_ m=xv at *;have l1:=k1.lt;go_wp2_with fail
     refine Hd (Ib) (xa) [15] [15] [0,1,2,3,4,5,6,7,8,9,10,11,12,13,14,15] (by kernel_rfl) (by kernel_rfl) ?_
     refine Jd (xa) ?_;intro Wc ja;refine Sc ?_;refine vc (xa) rfl rfl rfl rfl (fun _ _ _ h=>h) (fun _=>by go_simp <;> rfl) (fun w' hR=>Ye.out _) ?_
     simp only [Act.put,zLa,zLb,zLc];refine Sc ?_;refine vc (xa) rfl rfl rfl rfl (fun _ _ _ h=>h) (fun _=>by go_simp <;> rfl) (fun w' hR=>Xd.out _) ?_
     simp only [Act.put,zLa,zLb,zLc];refine Sc ?_;refine vc (xa) rfl rfl rfl rfl (fun _ _ _ h=>h) (fun _=>by go_simp <;> rfl) (fun w' hR=>HE.out _) ?_
     simp only [Act.put,zLa,zLb,zLc];refine Sc ?_;refine vc (xa) rfl rfl rfl rfl (fun _ _ _ h=>h) (fun _=>by go_simp <;> rfl) (fun w' hR=>jl.out _) ?_
     simp only [Act.put,zLa,zLb,zLc];refine Sc ?_;refine Ph rfl rfl rfl rfl ?_;intro wh tc;replace ja:=(xa).trans _ _ _ ja tc;replace k1:=k1.drew.below ja k1.lt;replace k2:=k2.drew.below ja k2.lt;replace da:=oa da.drew ja;have f1:=k1.frozen m;have cm2:wh.cell? ⟨w.heap.size,m,none⟩=some (.int .u64 xv):=WU ja cm;clear l1 cm;go_simp;refine ⟨fun h=>Bool.noConfusion h,?_⟩
     have hg:wh.grownBy (wh.setCell ⟨w.heap.size,m,none⟩ (.int .u64 sv)) (some w.heap.size):=mh (p:=⟨w.heap.size,m,none⟩) (Hf wh _) (.inl rfl) _;replace k1:=k1.set_ m (.int .u64 sv);rw [zJ.out] at k1;replace k2:=k2.grown hg (fun e=>by have:=Option.some.inj e;omega)
     replace da:=da.trans (Ff hg da.size zR);clear hg f1 cm2;generalize wh.setCell _ _=Wf at k1 k2 da |-;refine Oh rfl ?_;go_wp2
     go_roundw
     case rel=>exact ⟨m+1,by omega,by go_num,k1,k2,da⟩
     case measure=>simp [intOf];omega
    ·obtain rfl:m=3:=by omega
     obtain ⟨q,hq⟩:=zEX (Ix (Hx p r) t 3);have hqo:q.ok:=by rw [hq];exact HSO.out _ _ (Hk.out r)
     rw [<- hq] at k1 HT;clear hq;have Sk:Blk wr w.heap.size 214 #[.int .u64 q.a, .int .u64 q.b, .int .u64 q.c]:=k1;obtain ⟨z,hz⟩:=zEX (TF p q);rw [<- hz] at HT;have yd:=zH (show ∀ w,Calls Tryz.prog 258 #[.int .u64 p, .agg #[.int .u64 q.a, .int .u64 q.b, .int .u64 q.c]] w fun e w'=>e= .returned (.agg #[.int .u64 z.a, .int .u64 z.b, .int .u64 z.c]) /\ Below w.heap.size w w' from fun w=>by rw [hz];exact HM.out q w hqo)
     clear hz k1 hqo;have c1:=Sk.cell;go_wp2_with fail
     refine (yd.out _).mono ?_;rintro e w5 ⟨rfl,jb⟩;replace Sk:=Sk.below jb Sk.lt;replace k2:=ia k2 jb;replace da:=oa da jb;clear jb c1;have c1:=Sk.cell;have f1:=Sk.frozen;go_wp2_with fail
     have hg:=vq (w:=w5) (g:=w.heap.size) (.int .u64 z.a) (.int .u64 z.b) (.int .u64 z.c);have kz:=Lr Sk (.int .u64 z.a) (.int .u64 z.b) (.int .u64 z.c);replace k2:=k2.grown hg (fun e=>by have:=Option.some.inj e;omega)
     replace da:=da.trans (Ff hg da.size zR);clear hg c1 f1 Sk;generalize ((World.setCell w5 _ _).setCell _ _).setCell _ _=Wf at kz k2 da |-
     go_roundw
     case rel=>exact ⟨r+1,by omega,by go_num,by rw [HT.out];exact kz,k2,da⟩
     case measure=>simp [intOf];omega
  ·obtain rfl:r=8:=by omega
   obtain ⟨q,hq⟩:=zEX (zx p s 8);rw [<- hq] at k1;have HQ:=zH hq;clear hq;have Sk:Blk wr w.heap.size 214 #[.int .u64 q.a, .int .u64 q.b, .int .u64 q.c]:=k1;have c1:=Sk.cell;have c2:=k2.cell;have f2:=k2.frozen;go_wp2_with fail
   have hg:=vq (w:=wr) (g:=w.heap.size+1) (.int .u64 q.a) (.int .u64 q.b) (.int .u64 q.c);have kz:=Lr k2 (.int .u64 q.a) (.int .u64 q.b) (.int .u64 q.c);clear c1 c2 f2 k2;generalize ((World.setCell wr _ _).setCell _ _).setCell _ _=Wf at hg kz |-;have cz:=kz.cell;have hs:=da.size;exact bodyPost_ret (v:=.agg #[.int .u64 q.a, .int .u64 q.b, .int .u64 q.c]) (by simp [results,Tryz.results211,go_sem,cz]) rfl ⟨by rw [<- HQ.out];rfl,da.trans (Ff hg hs (by omega))⟩
def Dp (p:Nat):List Nat -> St -> St
 | [],s=>s
 | [x],s=>Gt p ⟨(s.a+x)%p,s.b,s.c⟩
 | x :: y :: r,s=>Dp p r (Gt p ⟨(s.a+x)%p,(s.b+y)%p,s.c⟩)
def nu (p label:Nat) (l:List Nat):St:=Dp p l ⟨0,0,(label*65536%p+l.length)%p⟩
theorem XO {l:List Nat} {i:Nat} (h:i+1<l.length):l.drop i=l.getD i 0 :: l.getD (i+1) 0 :: l.drop (i+2):=by
 rw [List.drop_eq_getElem_cons (by omega),List.drop_eq_getElem_cons h,List.getD_eq_getElem?_getD,List.getD_eq_getElem?_getD,List.getElem?_eq_getElem h,List.getElem?_eq_getElem (show i<l.length by omega)]
 rfl
theorem WO {l:List Nat} {i:Nat} (h:i+1=l.length):l.drop i=[l.getD i 0]:=by
 rw [List.drop_eq_getElem_cons (by omega),List.getD_eq_getElem?_getD,List.getElem?_eq_getElem (show i<l.length by omega),List.drop_of_length_le (by omega)]
 rfl
def yx (p:Nat) (s:St):Nat -> St
 | 0=>s
 | m+1=>Gt p (yx p s m)
def Lt (p:Nat) (s:St) (k:Nat):Nat:=(yx p s (k / 2)).at_ (k%2)
theorem nZ (p label:Nat) (A:Option Addr) (n c:Nat) (l:List Nat) (w:World) (hp:ab p=true) (hl:RWd w [.slice A n c] l) (Bb:0<l.length) (hlen:l.length <= 1000000) :
  Calls Tryz.prog 210 #[.int .u64 p, .int .u64 label, .slice A n c] w fun e w'=>e= .returned (nu p label l).val /\ Below w.heap.size w w':=by
 obtain ⟨rfl,h1,h2,za,La⟩:=Ra hl;have gm:=Kf h1 h2;have jA:=zH (fun w=>Rn p label 65536 w hp)
 have HA0:=zH (fun w=>Kr p (label*65536%p) l.length w hp)
 have HA:=zH (fun a b w=>Kr p a b w hp)
 have HP:=zH (fun s w=>kS p s w hp)
 have HF:=zH (show nu p label l=Dp p (l.drop 0) ⟨0,0,(label*65536%p+l.length)%p⟩ from rfl)
 have ew:IntKind.u64.wrap (l.length:Int)=(l.length:Int):=pj _ (by omega)
 generalize nu p label l=fin at *;generalize (label*65536%p+l.length)%p=c0 at *;generalize label*65536%p=m0 at *;clear hl h1 h2 hp;have da:Below w.heap.size w (w.alloc (.cells #[.int .u64 0, .int .u64 0, .int .u64 0] 214)):=(Below.refl _ _).alloc zR _;have kr:=Blk.new w 214 #[.int .u64 0, .int .u64 0, .int .u64 0];go_enter Tryz.func210,Tryz.ntmps210
 go_wp2_with fail
 generalize w.alloc _=w0 at kr da |-;refine (jA.out _).mono ?_;rintro e w1 ⟨rfl,Ga⟩;replace kr:=ia kr Ga;replace da:=oa da Ga;go_wp2_with fail
 refine (HA0.out _).mono ?_;rintro e w2 ⟨rfl,Ka⟩;replace kr:=ia kr Ka;replace da:=oa da Ka;have mC:w.heap.size<w2.heap.size:=kr.lt;have ma:=(Below.refl w2.heap.size w2).alloc zR (.cells #[.int .u64 0, .int .u64 0, .int .u64 c0] 214);have ks:Blk _ w2.heap.size 214 (St.mk 0 0 c0).cs:=Blk.new w2 214 #[.int .u64 0, .int .u64 0, .int .u64 c0];replace kr:=ia kr ma;replace da:=oa da ma;clear Ga Ka ma
 go_upto_block 0 with fail
 generalize w2.alloc _=w4 at kr ks da |-;generalize w2.heap.size=g at ks mC |-;go_wp2_with fail
 go_loopw [8] (fun y wr=>∃ (i:Nat) (q:St),i <= l.length+1 /\ y= .int .i64 i /\ Blk wr w.heap.size 214 #[.int .u64 0, .int .u64 0, .int .u64 0] /\ Blk wr g 214 q.cs /\ Below w.heap.size w wr /\ Hid (Dp p (l.drop i) q=fin)) (fun y _=>l.length-(intOf y).toNat)
 case atStart=>exact ⟨0,⟨0,0,c0⟩,by omega,rfl,kr,ks,da,HF.out.symm⟩
 case round =>
  clear kr ks da;obtain ⟨i,q,hi,rfl,kr,ks,da,HI⟩:=hrel;obtain ⟨qa,qb,qc⟩:=q;have Nu:Blk wr g 214 #[.int .u64 qa, .int .u64 qb, .int .u64 qc]:=ks;replace ks:=Nu;clear Nu;by_cases Io:i<l.length
  ·have hx:=GX za Io
   obtain ⟨bb,bq,eA,Wb,cl⟩:=Vd (La.below da) Io;have Qg:=zH za;have Rv:=zH La;have Di:=zH Io;have g1:(0:Int) <= (i:Int):=by omega
   have g2:(i:Int)<(l.length:Int):=by omega
   have hdi:((i:Int) == 0)=true \/ ((i:Int) == 0)=false:=by cases ((i:Int) == 0) <;> simp
   rcases hdi with di | di
   ·by_cases Yg:i+1<l.length
    ·obtain ⟨bb2,bq2,UA,Ii,Gp⟩:=Vd (La.below da) Yg
     have HD:=zH (XO Yg);obtain ⟨i1,xF⟩:=zEX (i+1);have e1:(i:Int)+1=(i1:Int):=by omega
     have e2:IntKind.i64.wrap ((i:Int)+1)=(i1:Int):=by rw [IntKind.wrap_i64];omega
     have e3:IntKind.i64.wrap (i1:Int)=(i1:Int):=by rw [IntKind.wrap_i64];omega
     have g4:(0:Int) <= (i1:Int):=by omega
     have g3:(i1:Int)<(l.length:Int):=by omega
     have Xx:=zH (show i1<l.length by omega)
     have tJ:=zH xF;rw [eA] at UA;have eA3:=Option.some.inj UA
     injection eA3 with e5 e6
     subst e5 e6;subst eA;clear UA Ii;have Bp:=zH (show Dp p (l.getD i 0 :: l.getD (i+1) 0 :: l.drop (i+2)) ⟨qa,qb,qc⟩=fin by rw [<- HD.out];exact HI.out)
     clear HD za La Yg hx xF;obtain ⟨y,hy⟩:=zEX (l.getD (i+1) 0);generalize l.getD i 0=x at *;rw [<- hy] at Bp Gp;have HY:=zH hy.symm;clear hy;have Xd:=zH (fun w=>HA.out qa x w)
     have HA2:=zH (fun w=>HA.out qb y w)
     obtain ⟨na,vi⟩:=zEX ((qa+x)%p);obtain ⟨nb,nt⟩:=zEX ((qb+y)%p);rw [<- vi] at Xd;rw [<- nt] at HA2;obtain ⟨z,hz⟩:=zEX (Gt p ⟨na,nb,qc⟩);have HX:=zH (show ∀ w,Calls Tryz.prog 211 #[.int .u64 p, .agg #[.int .u64 na, .int .u64 nb, .int .u64 qc]] w fun e w'=>e= .returned (.agg #[.int .u64 z.a, .int .u64 z.b, .int .u64 z.c]) /\ Below w.heap.size w w' from fun w=>by rw [hz];exact HP.out ⟨na,nb,qc⟩ w)
     have HZ:=zH (show Dp p (l.drop (i+2)) z=fin by rw [hz];rw [vi,nt];exact Bp.out)
     clear hz;clear Bp vi nt;have cs:=ks.cell;have ls:=ks.lt;have cl2H:=zH Gp;clear Gp;go_wp2_with fail
     refine Hd (Ib) (xa) [9] [9] [0,1,2,3,4,5,6,7,8,9] (by kernel_rfl) (by kernel_rfl) ?_
     refine Jd (xa) ?_;intro Wc ja;refine Sc ?_;refine vc (xa) rfl rfl rfl rfl (fun _ _ _ h=>h) (fun _=>by go_simp <;> rfl) (fun w' hR=>Xd.out _) ?_
     simp only [Act.put,zLa,zLb,zLc];refine Sc ?_;refine Ph rfl rfl rfl rfl ?_;intro wh tc;replace ja:=(xa).trans _ _ _ ja tc;replace kr:=kr.drew.below ja kr.lt;replace ks:=ks.drew.below ja ks.lt;replace da:=oa da.drew ja;clear cs ls ja tc cl;have c2:=ks.cell;have f2:=ks.frozen;go_simp;refine ⟨fun h=>Bool.noConfusion h,?_⟩
     have hg:wh.grownBy (wh.setCell ⟨g,0,none⟩ (.int .u64 na)) (some g):=mh (p:=⟨g,0,none⟩) (Hf wh _) (.inl rfl) _;replace ks:=ks.set_ 0 (.int .u64 na);simp at ks
     replace kr:=kr.grown hg (fun e=>by have:=Option.some.inj e;omega)
     replace da:=Pb da hg;clear hg c2 f2;generalize wh.setCell _ _=DA at ks kr da |-;refine Oh rfl ?_;have Gp:DA.cell? ⟨bb,bq+i1,none⟩=some (.int .u64 y):=by obtain ⟨b3,q3,e3,-,h3⟩:=Vd (Rv.out.below da) Xx.out;have e4:=Option.some.inj e3;injection e4 with e5 e6;subst e5 e6;rw [h3,tJ.out,HY.out]
     have Ii:bb<DA.heap.size:=World.block_lt_of_cell? _ _ Gp;have cs:=ks.cell;have ls:=ks.lt;go_wp2_with fail
     refine Hd (Ib) (xa) [10] [10] [0,1,2,3,4,5,6,7,8,9,10] (by kernel_rfl) (by kernel_rfl) ?_
     refine Jd (xa) ?_;intro Wc ja;refine Sc ?_;refine vc (xa) rfl rfl rfl rfl (fun _ _ _ h=>h) (fun _=>by go_simp <;> rfl) (fun w' hR=>HA2.out _) ?_
     simp only [Act.put,zLa,zLb,zLc];refine Sc ?_;refine Ph rfl rfl rfl rfl ?_;intro wh tc;replace ja:=(xa).trans _ _ _ ja tc;replace kr:=kr.drew.below ja kr.lt;replace ks:=ks.drew.below ja ks.lt;replace da:=oa da.drew ja;clear cs ls ja tc Gp;have c2:=ks.cell;have f2:=ks.frozen;go_simp;refine ⟨fun h=>Bool.noConfusion h,?_⟩
     have hg:wh.grownBy (wh.setCell ⟨g,1,none⟩ (.int .u64 nb)) (some g):=mh (p:=⟨g,1,none⟩) (Hf wh _) (.inl rfl) _;replace ks:=ks.set_ 1 (.int .u64 nb);simp at ks
     replace kr:=kr.grown hg (fun e=>by have:=Option.some.inj e;omega)
     replace da:=Pb da hg;clear hg c2 f2;generalize wh.setCell _ _=Wf1 at ks kr da |-;refine Oh rfl ?_;have cs:=ks.cell;go_wp2_with fail
     refine (HX.out _).mono ?_;rintro e w5 ⟨rfl,jb⟩;replace kr:=ia kr jb;replace ks:=ia ks jb;replace da:=oa da jb;clear cs jb;have cs:=ks.cell;have fs:=ks.frozen;go_wp2_with fail
     have hg:=vq (w:=w5) (g:=g) (.int .u64 z.a) (.int .u64 z.b) (.int .u64 z.c);have kz:=Lr ks (.int .u64 z.a) (.int .u64 z.b) (.int .u64 z.c);replace kr:=kr.grown hg (fun e=>by have:=Option.some.inj e;omega)
     replace da:=Pb da hg;clear hg cs fs ks;generalize ((World.setCell w5 _ _).setCell _ _).setCell _ _=Wz at kz kr da |-
     go_roundw
     case rel=>exact ⟨i+2,z,by omega,by go_num,kr,kz,da,HZ.out⟩
     case measure=>simp [intOf];omega
    ·have bz:i+1=l.length:=by omega
     have HD:=zH (WO bz);have g3:¬((i:Int)+1<(l.length:Int)):=by omega
     subst eA;have Bp:=zH (show Dp p [l.getD i 0] ⟨qa,qb,qc⟩=fin by rw [<- HD.out];exact HI.out)
     have Hv:=zH (show l.drop (i+2)=[] from List.drop_of_length_le (by omega))
     clear HD za La hx;generalize l.getD i 0=x at *;have Xd:=zH (fun w=>HA.out qa x w)
     obtain ⟨na,vi⟩:=zEX ((qa+x)%p);rw [<- vi] at Xd;obtain ⟨z,hz⟩:=zEX (Gt p ⟨na,qb,qc⟩);have HX:=zH (show ∀ w,Calls Tryz.prog 211 #[.int .u64 p, .agg #[.int .u64 na, .int .u64 qb, .int .u64 qc]] w fun e w'=>e= .returned (.agg #[.int .u64 z.a, .int .u64 z.b, .int .u64 z.c]) /\ Below w.heap.size w w' from fun w=>by rw [hz];exact HP.out ⟨na,qb,qc⟩ w)
     have HZ:=zH (show Dp p (l.drop (i+2)) z=fin by rw [hz];rw [Hv.out,vi];exact Bp.out)
     clear hz;clear Bp Hv Yg bz vi;have cs:=ks.cell;have ls:=ks.lt;go_wp2_with fail
     refine Hd (Ib) (xa) [9] [9] [0,1,2,3,4,5,6,7,8,9] (by kernel_rfl) (by kernel_rfl) ?_
     refine Jd (xa) ?_;intro Wc ja;refine Sc ?_;refine vc (xa) rfl rfl rfl rfl (fun _ _ _ h=>h) (fun _=>by go_simp <;> rfl) (fun w' hR=>Xd.out _) ?_
     simp only [Act.put,zLa,zLb,zLc];refine Sc ?_;refine Ph rfl rfl rfl rfl ?_;intro wh tc;replace ja:=(xa).trans _ _ _ ja tc;replace kr:=kr.drew.below ja kr.lt;replace ks:=ks.drew.below ja ks.lt;replace da:=oa da.drew ja;clear cs ls ja tc cl;have c2:=ks.cell;have f2:=ks.frozen;go_simp;refine ⟨fun h=>Bool.noConfusion h,?_⟩
     have hg:wh.grownBy (wh.setCell ⟨g,0,none⟩ (.int .u64 na)) (some g):=mh (p:=⟨g,0,none⟩) (Hf wh _) (.inl rfl) _;replace ks:=ks.set_ 0 (.int .u64 na);simp at ks
     replace kr:=kr.grown hg (fun e=>by have:=Option.some.inj e;omega)
     replace da:=Pb da hg;clear hg c2 f2;generalize wh.setCell _ _=DA at ks kr da |-;refine Oh rfl ?_;have cs:=ks.cell;go_wp2_with fail
     refine (HX.out _).mono ?_;rintro e w5 ⟨rfl,jb⟩;replace kr:=ia kr jb;replace ks:=ia ks jb;replace da:=oa da jb;clear cs jb;have cs:=ks.cell;have fs:=ks.frozen;go_wp2_with fail
     have hg:=vq (w:=w5) (g:=g) (.int .u64 z.a) (.int .u64 z.b) (.int .u64 z.c);have kz:=Lr ks (.int .u64 z.a) (.int .u64 z.b) (.int .u64 z.c);replace kr:=kr.grown hg (fun e=>by have:=Option.some.inj e;omega)
     replace da:=Pb da hg;clear hg cs fs ks;generalize ((World.setCell w5 _ _).setCell _ _).setCell _ _=Wz at kz kr da |-
     go_roundw
     case rel=>exact ⟨i+2,z,by omega,by go_num,kr,kz,da,HZ.out⟩
     case measure=>simp [intOf];omega
   ·by_cases Yg:i+1<l.length
    ·obtain ⟨bb2,bq2,UA,Ii,Gp⟩:=Vd (La.below da) Yg
     have HD:=zH (XO Yg);obtain ⟨i1,xF⟩:=zEX (i+1);have e1:(i:Int)+1=(i1:Int):=by omega
     have e2:IntKind.i64.wrap ((i:Int)+1)=(i1:Int):=by rw [IntKind.wrap_i64];omega
     have e3:IntKind.i64.wrap (i1:Int)=(i1:Int):=by rw [IntKind.wrap_i64];omega
     have g4:(0:Int) <= (i1:Int):=by omega
     have g3:(i1:Int)<(l.length:Int):=by omega
     have Xx:=zH (show i1<l.length by omega)
     have tJ:=zH xF;rw [eA] at UA;have eA3:=Option.some.inj UA
     injection eA3 with e5 e6
     subst e5 e6;subst eA;clear UA Ii;have Bp:=zH (show Dp p (l.getD i 0 :: l.getD (i+1) 0 :: l.drop (i+2)) ⟨qa,qb,qc⟩=fin by rw [<- HD.out];exact HI.out)
     clear HD za La Yg hx xF;obtain ⟨y,hy⟩:=zEX (l.getD (i+1) 0);generalize l.getD i 0=x at *;rw [<- hy] at Bp Gp;have HY:=zH hy.symm;clear hy;have Xd:=zH (fun w=>HA.out qa x w)
     have HA2:=zH (fun w=>HA.out qb y w)
     obtain ⟨na,vi⟩:=zEX ((qa+x)%p);obtain ⟨nb,nt⟩:=zEX ((qb+y)%p);rw [<- vi] at Xd;rw [<- nt] at HA2;obtain ⟨z,hz⟩:=zEX (Gt p ⟨na,nb,qc⟩);have HX:=zH (show ∀ w,Calls Tryz.prog 211 #[.int .u64 p, .agg #[.int .u64 na, .int .u64 nb, .int .u64 qc]] w fun e w'=>e= .returned (.agg #[.int .u64 z.a, .int .u64 z.b, .int .u64 z.c]) /\ Below w.heap.size w w' from fun w=>by rw [hz];exact HP.out ⟨na,nb,qc⟩ w)
     have HZ:=zH (show Dp p (l.drop (i+2)) z=fin by rw [hz];rw [vi,nt];exact Bp.out)
     clear hz;clear Bp vi nt;have cs:=ks.cell;have ls:=ks.lt;have cl2H:=zH Gp;clear Gp;go_wp2_with fail
     refine Hd (Ib) (xa) [9] [9] [0,1,2,3,4,5,6,7,8,9] (by kernel_rfl) (by kernel_rfl) ?_
     refine Jd (xa) ?_;intro Wc ja;refine Sc ?_;refine vc (xa) rfl rfl rfl rfl (fun _ _ _ h=>h) (fun _=>by go_simp <;> rfl) (fun w' hR=>Xd.out _) ?_
     simp only [Act.put,zLa,zLb,zLc];refine Sc ?_;refine Ph rfl rfl rfl rfl ?_;intro wh tc;replace ja:=(xa).trans _ _ _ ja tc;replace kr:=kr.drew.below ja kr.lt;replace ks:=ks.drew.below ja ks.lt;replace da:=oa da.drew ja;clear cs ls ja tc cl;have c2:=ks.cell;have f2:=ks.frozen;go_simp;refine ⟨fun h=>Bool.noConfusion h,?_⟩
     have hg:wh.grownBy (wh.setCell ⟨g,0,none⟩ (.int .u64 na)) (some g):=mh (p:=⟨g,0,none⟩) (Hf wh _) (.inl rfl) _;replace ks:=ks.set_ 0 (.int .u64 na);simp at ks
     replace kr:=kr.grown hg (fun e=>by have:=Option.some.inj e;omega)
     replace da:=Pb da hg;clear hg c2 f2;generalize wh.setCell _ _=DA at ks kr da |-;refine Oh rfl ?_;have Gp:DA.cell? ⟨bb,bq+i1,none⟩=some (.int .u64 y):=by obtain ⟨b3,q3,e3,-,h3⟩:=Vd (Rv.out.below da) Xx.out;have e4:=Option.some.inj e3;injection e4 with e5 e6;subst e5 e6;rw [h3,tJ.out,HY.out]
     have Ii:bb<DA.heap.size:=World.block_lt_of_cell? _ _ Gp;have cs:=ks.cell;have ls:=ks.lt;go_wp2_with fail
     refine Hd (Ib) (xa) [10] [10] [0,1,2,3,4,5,6,7,8,9,10] (by kernel_rfl) (by kernel_rfl) ?_
     refine Jd (xa) ?_;intro Wc ja;refine Sc ?_;refine vc (xa) rfl rfl rfl rfl (fun _ _ _ h=>h) (fun _=>by go_simp <;> rfl) (fun w' hR=>HA2.out _) ?_
     simp only [Act.put,zLa,zLb,zLc];refine Sc ?_;refine Ph rfl rfl rfl rfl ?_;intro wh tc;replace ja:=(xa).trans _ _ _ ja tc;replace kr:=kr.drew.below ja kr.lt;replace ks:=ks.drew.below ja ks.lt;replace da:=oa da.drew ja;clear cs ls ja tc Gp;have c2:=ks.cell;have f2:=ks.frozen;go_simp;refine ⟨fun h=>Bool.noConfusion h,?_⟩
     have hg:wh.grownBy (wh.setCell ⟨g,1,none⟩ (.int .u64 nb)) (some g):=mh (p:=⟨g,1,none⟩) (Hf wh _) (.inl rfl) _;replace ks:=ks.set_ 1 (.int .u64 nb);simp at ks
     replace kr:=kr.grown hg (fun e=>by have:=Option.some.inj e;omega)
     replace da:=Pb da hg;clear hg c2 f2;generalize wh.setCell _ _=Wf1 at ks kr da |-;refine Oh rfl ?_;have cs:=ks.cell;go_wp2_with fail
     refine (HX.out _).mono ?_;rintro e w5 ⟨rfl,jb⟩;replace kr:=ia kr jb;replace ks:=ia ks jb;replace da:=oa da jb;clear cs jb;have cs:=ks.cell;have fs:=ks.frozen;go_wp2_with fail
     have hg:=vq (w:=w5) (g:=g) (.int .u64 z.a) (.int .u64 z.b) (.int .u64 z.c);have kz:=Lr ks (.int .u64 z.a) (.int .u64 z.b) (.int .u64 z.c);replace kr:=kr.grown hg (fun e=>by have:=Option.some.inj e;omega)
     replace da:=Pb da hg;clear hg cs fs ks;generalize ((World.setCell w5 _ _).setCell _ _).setCell _ _=Wz at kz kr da |-
     go_roundw
     case rel=>exact ⟨i+2,z,by omega,by go_num,kr,kz,da,HZ.out⟩
     case measure=>simp [intOf];omega
    ·have bz:i+1=l.length:=by omega
     have HD:=zH (WO bz);have g3:¬((i:Int)+1<(l.length:Int)):=by omega
     subst eA;have Bp:=zH (show Dp p [l.getD i 0] ⟨qa,qb,qc⟩=fin by rw [<- HD.out];exact HI.out)
     have Hv:=zH (show l.drop (i+2)=[] from List.drop_of_length_le (by omega))
     clear HD za La hx;generalize l.getD i 0=x at *;have Xd:=zH (fun w=>HA.out qa x w)
     obtain ⟨na,vi⟩:=zEX ((qa+x)%p);rw [<- vi] at Xd;obtain ⟨z,hz⟩:=zEX (Gt p ⟨na,qb,qc⟩);have HX:=zH (show ∀ w,Calls Tryz.prog 211 #[.int .u64 p, .agg #[.int .u64 na, .int .u64 qb, .int .u64 qc]] w fun e w'=>e= .returned (.agg #[.int .u64 z.a, .int .u64 z.b, .int .u64 z.c]) /\ Below w.heap.size w w' from fun w=>by rw [hz];exact HP.out ⟨na,qb,qc⟩ w)
     have HZ:=zH (show Dp p (l.drop (i+2)) z=fin by rw [hz];rw [Hv.out,vi];exact Bp.out)
     clear hz;clear Bp Hv Yg bz vi;have cs:=ks.cell;have ls:=ks.lt;go_wp2_with fail
     refine Hd (Ib) (xa) [9] [9] [0,1,2,3,4,5,6,7,8,9] (by kernel_rfl) (by kernel_rfl) ?_
     refine Jd (xa) ?_;intro Wc ja;refine Sc ?_;refine vc (xa) rfl rfl rfl rfl (fun _ _ _ h=>h) (fun _=>by go_simp <;> rfl) (fun w' hR=>Xd.out _) ?_
     simp only [Act.put,zLa,zLb,zLc];refine Sc ?_;refine Ph rfl rfl rfl rfl ?_;intro wh tc;replace ja:=(xa).trans _ _ _ ja tc;replace kr:=kr.drew.below ja kr.lt;replace ks:=ks.drew.below ja ks.lt;replace da:=oa da.drew ja;clear cs ls ja tc cl;have c2:=ks.cell;have f2:=ks.frozen;go_simp;refine ⟨fun h=>Bool.noConfusion h,?_⟩
     have hg:wh.grownBy (wh.setCell ⟨g,0,none⟩ (.int .u64 na)) (some g):=mh (p:=⟨g,0,none⟩) (Hf wh _) (.inl rfl) _;replace ks:=ks.set_ 0 (.int .u64 na);simp at ks
     replace kr:=kr.grown hg (fun e=>by have:=Option.some.inj e;omega)
     replace da:=Pb da hg;clear hg c2 f2;generalize wh.setCell _ _=DA at ks kr da |-;refine Oh rfl ?_;have cs:=ks.cell;go_wp2_with fail
     refine (HX.out _).mono ?_;rintro e w5 ⟨rfl,jb⟩;replace kr:=ia kr jb;replace ks:=ia ks jb;replace da:=oa da jb;clear cs jb;have cs:=ks.cell;have fs:=ks.frozen;go_wp2_with fail
     have hg:=vq (w:=w5) (g:=g) (.int .u64 z.a) (.int .u64 z.b) (.int .u64 z.c);have kz:=Lr ks (.int .u64 z.a) (.int .u64 z.b) (.int .u64 z.c);replace kr:=kr.grown hg (fun e=>by have:=Option.some.inj e;omega)
     replace da:=Pb da hg;clear hg cs fs ks;generalize ((World.setCell w5 _ _).setCell _ _).setCell _ _=Wz at kz kr da |-
     go_roundw
     case rel=>exact ⟨i+2,z,by omega,by go_num,kr,kz,da,HZ.out⟩
     case measure=>simp [intOf];omega
  ·have HQ:=zH (show (⟨qa,qb,qc⟩:St)=fin by have:=HI.out;rw [List.drop_of_length_le (by omega)] at this;exact this)
   have g2:¬((i:Int)<(l.length:Int)):=by omega
   have gi:((i:Int) == 0)=false:=by rw [beq_eq_false_iff_ne];omega
   have cs:=ks.cell;have cr:=kr.cell;have fr:=kr.frozen;clear La za;go_wp2_with fail
   have hg:=vq (w:=wr) (g:=w.heap.size) (.int .u64 qa) (.int .u64 qb) (.int .u64 qc);have kz:=Lr kr (.int .u64 qa) (.int .u64 qb) (.int .u64 qc);clear cs cr fr kr ks;generalize ((World.setCell wr _ _).setCell _ _).setCell _ _=Wz at hg kz |-;have cz:=kz.cell;exact bodyPost_ret (v:=.agg #[.int .u64 qa, .int .u64 qb, .int .u64 qc]) (by simp [results,Tryz.results210,go_sem,cz]) rfl ⟨by rw [<- HQ.out];rfl,da.trans (Ff hg da.size zR)⟩
theorem Hc {w w':World} {base B:Nat} {e:TypeId} {size:Nat} {v:Value} {n:Nat} {xs:List Value} (h:w.ownsRow base e size v n xs) (hg:w.grownBy w' (some B)) (hB:B<base):w'.ownsRow base e size v n xs:=by
 obtain ⟨h1,h2⟩:=h;refine ⟨h1,?_⟩;rcases h2 with h2 | ⟨g,cap,cur,hv,dj,hh,r⟩
 ·exact Or.inl h2
 ·exact Or.inr ⟨g,cap,cur,hv,dj,by rw [hg.block g (Array.getElem?_eq_some_iff.1 hh).1 (fun e=>by have:=Option.some.inj e;omega)];exact hh,r⟩
theorem It (f:Nat -> Nat) (i:Nat):(List.range i).map f++[f i]=(List.range (i+1)).map f:=by simp [List.range_succ]
theorem YZ (p label:Nat) (A:Option Addr) (n c m:Nat) (l:List Nat) (w:World) (hp:ab p=true) (hl:RWd w [.slice A n c] l) (Bb:0<l.length) (hlen:l.length <= 1000000) (hm:m <= 65536) :
  Calls Tryz.prog 133 #[.int .u64 p, .int .u64 label, .slice A n c, .int .i64 m] w fun e w'=>∃ v,e= .returned v /\ w'.ownsRow w.heap.size 22 1 v m (Fa ((List.range m).map (Lt p (nu p label l)))) /\ Below w.heap.size w w':=by
 obtain ⟨jc,Kb⟩:=Va hp;have HV:=zH (fun w=>by have:=Ul p w Kb;rw [hp] at this;exact this)
 have HAb:=zH (fun w' (hb:Below w.heap.size w w')=>nZ p label A n c l w' hp (ta hb hl) Bb hlen)
 have HP:=zH (fun s w=>kS p s w hp)
 have g0:¬((m:Int)<0):=by omega
 have g1:(m:Int) <= 65536:=by omega
 clear hl Bb hlen hp jc Kb;generalize nu p label l=s at *;go_enter Tryz.func133,Tryz.ntmps133
 go_wp2_with fail
 refine (HV.out _).mono ?_;rintro e w1 ⟨rfl,Ga⟩;go_wp2_with fail
 refine (HAb.out _ Ga).mono ?_;rintro e w2 ⟨rfl,Ka⟩;have da:=oa Ga Ka;have ev:s.val= .agg #[.int .u64 s.a, .int .u64 s.b, .int .u64 s.c]:=rfl;rw [ev];have ma:=(Below.refl w2.heap.size w2).alloc zR (.cells #[.int .u64 s.a, .int .u64 s.b, .int .u64 s.c] 214);have ks0:=Blk.new w2 214 #[.int .u64 s.a, .int .u64 s.b, .int .u64 s.c];have xi:=da.size;replace da:=oa da ma;clear ev Ga Ka ma;go_upto_region 4 with fail
 generalize w2.alloc _=w3 at ks0 da |-;generalize w2.heap.size=gs at *;have ks:Blk w3 gs 214 (yx p s (0 / 2)).cs:=ks0;clear ks0;have hgs:gs<w3.heap.size:=ks.lt;go_wp2_with fail
 go_loopw [10,11] (fun v y wr=>∃ i:Nat,i <= m /\ y= .int .i64 i /\ Blk wr gs 214 (yx p s (i / 2)).cs /\ wr.ownsRow w3.heap.size 22 1 v i (Fa ((List.range i).map (Lt p s))) /\ Below w.heap.size w wr /\ w3.heap.size <= wr.heap.size) (fun _ y _=>m-(intOf y).toNat)
 case atStart=>exact ⟨0,Nat.zero_le _,rfl,ks,⟨rfl, .inl ⟨rfl,rfl⟩⟩,da,zR⟩
 case round =>
  clear ks da;obtain ⟨i,hi,rfl,ks,ra,da,Nb⟩:=hrel;by_cases za:i<m
  ·have g2:(i:Int)<(m:Int):=by omega
   have g3:(0:Int) <= (i:Int):=by omega
   obtain ⟨sv,Mu⟩:=zEX (Lt p s i);obtain ⟨j,hj⟩:=zEX (i%2);have Kw:j<3:=by omega
   have ej:(i:Int)%2=(j:Int):=by omega
   have ej2:(i:Int).tmod 2=(j:Int):=by rw [Int.tmod_eq_emod_of_nonneg (by omega)];exact ej
   have HSQ:=zH (show (yx p s (i / 2)).at_ j=sv by rw [hj,Mu];rfl)
   have Jq:=zH (show (List.range i).map (Lt p s)++[sv]=(List.range (i+1)).map (Lt p s) by rw [Mu];exact It _ _)
   have cj:=ks.cell j;rw [St.cs_at _ Kw,HSQ.out] at cj;obtain ⟨q,hq⟩:=zEX (yx p s (i / 2));rw [<- hq] at ks;have HQ:=zH hq.symm;have HJ:=zH hj;clear Mu hq hj;go_wp2_with (at_builtin;refine Mf rfl _ _ rfl xf rfl (ra.alloc _) rfl (Lf _ _ _) (mg [sv]) (by omega) (by simp;omega) ?_)
   intro v' wn db Ma Lb;have ma:=(Below.refl wr.heap.size wr).alloc zR (.cells #[.int .u64 sv] 22);have hB:=Ae (ra.alloc _) Ma (by simp;omega)
   have hks:=(ia ks ma).below hB hgs;replace da:=(Uh da ma da.size).trans (hB.mono (by have:=da.size;omega))
   have gL:w3.heap.size <= wn.heap.size:=by have:=Ma.size;simp at this;omega
   replace db:wn.ownsRow w3.heap.size 22 1 v' (i+1) (Fa ((List.range (i+1)).map (Lt p s))):=Qi (a:=(List.range i).map (Lt p s)) (b:=[sv]) db Jq.out;clear ra Ma Lb ma hB ks cj Nb;rcases (show j=0 \/ j=1 by have:=HJ.out;omega) with h0 | h1
   ·have d3:((j:Int) == 1)=false:=by rw [beq_eq_false_iff_ne];omega
    have HH:=zH (show i / 2=(i+1) / 2 by have:=HJ.out;omega)
    rw [<- HQ.out,HH.out] at hks;clear h0;go_wp2
    go_roundw
    case rel=>exact ⟨i+1,by omega,by go_num,hks,db,da,gL⟩
    case measure=>simp [intOf];omega
   ·have d3:((j:Int) == 1)=true:=by rw [beq_iff_eq];omega
    have HH:=zH (show (i+1) / 2=i / 2+1 by have:=HJ.out;omega)
    obtain ⟨z,hz⟩:=zEX (Gt p q);have HZ:=zH (show yx p s ((i+1) / 2)=z by rw [HH.out,yx,HQ.out,hz])
    have HX:=zH (show ∀ w,Calls Tryz.prog 211 #[.int .u64 p, .agg #[.int .u64 q.a, .int .u64 q.b, .int .u64 q.c]] w fun e w'=>e= .returned (.agg #[.int .u64 z.a, .int .u64 z.b, .int .u64 z.c]) /\ Below w.heap.size w w' from fun w=>by rw [hz];exact HP.out q w)
    have Nu:Blk wn gs 214 #[.int .u64 q.a, .int .u64 q.b, .int .u64 q.c]:=hks;clear h1 hz hks;have cs:=Nu.cell;go_wp2_with fail
    refine (HX.out _).mono ?_;rintro e w5 ⟨rfl,jb⟩;replace Nu:=ia Nu jb;replace db:=Oa db jb zR;replace da:=oa da jb;have iC:=jb.size;clear cs jb;have cs:=Nu.cell;have fs:=Nu.frozen;go_wp2_with fail
    have hg:=vq (w:=w5) (g:=gs) (.int .u64 z.a) (.int .u64 z.b) (.int .u64 z.c);have ks:Blk _ gs 214 z.cs:=Lr Nu (.int .u64 z.a) (.int .u64 z.b) (.int .u64 z.c);replace db:=Hc db hg hgs;replace da:=Pb da hg;have hs6:=hg.size;clear hg cs fs Nu
    go_roundw
    case rel=>exact ⟨i+1,by omega,by go_num,by rw [HZ.out];exact ks,db,da,by omega⟩
    case measure=>simp [intOf];omega
  ·obtain rfl:i=m:=by omega
   go_wp2;go_ret
   exact ⟨_,rfl,Pf ra (by omega),da⟩
end Go.Proofs.YtgeofabpinfcmaaGreat
