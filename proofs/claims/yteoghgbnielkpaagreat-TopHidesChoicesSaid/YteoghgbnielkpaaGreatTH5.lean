/- A part of the proof. No condition. -/
import Derived.Test.YteoghgbnielkpaaGreatTH4
import Derived.Maps.OwnOps
import Derived.Maps.OwnSet
import Derived.Laws.Bits64

set_option maxRecDepth 100000
set_option maxHeartbeats 8000000
set_option linter.unusedVariables false
set_option linter.unusedSimpArgs false
namespace Go.Proofs.YteoghgbnielkpaaGreat
open Go.RowKit Go.Maps
open Tryz
open Go renaming World->vw, Value->vx, Addr->vy, TypeId->vz, Calls->vB
open Go.Value renaming int->vd, slice->ve, agg->vf
open Go.IntKind renaming u64->vn, i64->vq, u8->vu
open Go.Ending renaming returned->vl
open Go.RowKit renaming Below->vA
open Go.World renaming setCell->vF
open Go.Act renaming put->vG
open Option renaming none->vD, some->vE
theorem zEZ (p a e:Nat) (w:vw) (hp:Ib p=true) (he:e<18446744073709551616) :
  vB prog 273 #[vd vn p,vd vn a,vd vn e] w fun e' w'=>e'=vl (vd vn ((a^e%p:Nat):Int)) /\ vA w.1.size w w':=by
 obtain ⟨Ed,uc⟩:=Nb hp;have HO:=zH (fun w=>by have:=Ju p w uc;rw [hp] at this;exact this)
 have HM:=zH (fun a b w=>zP p a b w hp)
 obtain ⟨n,hn⟩:=zEX (a^e%p);rw [<- hn];have HI:=zH (show 1*(a%p)^e%p=n by rw [Nat.one_mul,<- Nat.pow_mod,hn])
 have HP:=zH Ed;have p1:(0:Int)<p:=by omega
 have e1:(a:Int)%(p:Int)=((a%p:Nat):Int):=rfl;have e2:(a:Int).tmod (p:Int)=((a%p:Nat):Int):=rfl;have p3:¬(p=0):=by omega
 clear hn hp Ed uc;generalize a%p=a0 at *;go_enter func273,ntmps273
 go_wp2_with fail
 refine (HO.out _).mono ?_;rintro e' w1 ⟨rfl,da⟩;go_wp2_with fail
 clear e1 e2;go_loopw [1,2,7] (fun x y z wr=>∃ a' e' r:Nat,x=vd vn a' /\ y=vd vn e' /\ z=vd vn r /\ r<p /\ e'<18446744073709551616 /\ Hid (r*a'^e'%p=n) /\ vA w.1.size w wr) (fun _ y _ _=>(intOf y).toNat)
 case atStart=>exact ⟨a0,e,1,rfl,rfl,rfl,by have:=HP.out;omega,he,HI.out,da⟩
 case round =>
  clear da;obtain ⟨a',e',r,rfl,rfl,rfl,xk,he',H,Ab⟩:=hrel;by_cases h0:e'=0
  ·subst h0
   have HE:=zH (show r=n by have:=H.out;rw [Nat.pow_zero,Yr,Fj xk] at this;exact this)
   go_wp2;go_ret
   exact ⟨by rw [HE.out];rfl,Ab⟩
  ·have g1:(0:Int)<e':=by omega
   obtain ⟨f,hf⟩:=zEX (e' / 2);have e1:(e':Int) / 2=(f:Int):=by omega
   have e2:(e':Int).tdiv 2=(f:Int):=by rw [yG (by omega)];exact e1
   have HQ:=zH (fun w=>HM.out a' a' w)
   rcases (show e'%2=1 \/ e'%2=0 by omega) with dh | dh
   ·have eb:(e':Int)%2=1:=by omega
    have ec:(e':Int).tmod 2=1:=by rw [Int.tmod_eq_emod_of_nonneg (by omega)];exact eb
    have HF:=zH hf;have Le:=zH (fun w=>HM.out r a' w)
    have HX:=p5 p r a' e' n H.out dh;rw [<- hf] at HX;have re:r*a'%p<p:=ic _ (by have:=HP.out;omega)
    generalize r*a'%p=s at *;generalize a'*a'%p=q at *;replace HX:=zH HX;clear dh hf;go_wp2_with fail
    refine (Le.out _).mono ?_;rintro e w1 ⟨rfl,Ca⟩;replace Ab:=zx Ab Ca Ab.size;clear Ca;go_wp2_with fail
    refine (HQ.out _).mono ?_;rintro e w2 ⟨rfl,Aa⟩;replace Ab:=zx Ab Aa Ab.size;go_wp2
    go_roundw
    case rel=>exact ⟨q,f,s,rfl,rfl,rfl,re,by have:=HF.out;omega,HX.out,Ab⟩
    case measure=>have:=HF.out;simp [intOf];omega
   ·have eb:(e':Int)%2=0:=by omega
    have ec:(e':Int).tmod 2=0:=by rw [Int.tmod_eq_emod_of_nonneg (by omega)];exact eb
    have HF:=zH hf;have HX:=Y4 p r a' e' n H.out dh;rw [<- hf] at HX;generalize a'*a'%p=q at *;replace HX:=zH HX;clear dh hf;go_wp2_with fail
    refine (HQ.out _).mono ?_;rintro e w2 ⟨rfl,Aa⟩;replace Ab:=zx Ab Aa Ab.size;go_wp2
    go_roundw
    case rel=>exact ⟨q,f,r,rfl,rfl,rfl,xk,by have:=HF.out;omega,HX.out,Ab⟩
    case measure=>have:=HF.out;simp [intOf];omega
theorem zB6 {w:vw} {a b c:vx}:(Instr.index 298 (vf #[a,b,c]) (vd vq 2)).run prog w= .ok c w :=
 sM (i:=2) underlying298 QQ TU (by omega) rfl
theorem zEQ (p:Nat) (w:vw) (hp:Ib p=true) :
  vB prog 275 #[vd vn p] w fun e w'=>e=vl (vd vn ((Mb p).2.2:Int)) /\ vA w.1.size w w':=by
 have HR:=zH (u6 p w (Nb hp).2);clear hp;unfold rM at HR;generalize (Mb p).1=a at *;generalize (Mb p).2.1=b at *;generalize (Mb p).2.2=c at *;go_enter func275,ntmps275
 go_wp2_with (go_at_call 233;refine HR.out.mono ?_;rintro e w1 ⟨rfl,hb⟩)
 rw [zB6,Result.andThen,Oper.upon_value];go_wp2;go_ret
 exact ⟨rfl,hb⟩
def SP (p:Nat) (l:List Nat):Nat:=l.foldl (fun s x=>(s+x)%p) 0
theorem zE5 (p:Nat) (A:Option vy) (n c:Nat) (l:List Nat) (w:vw) (hp:Ib p=true) (hl:RWd w [ve A n c] l) :
  vB prog 301 #[vd vn p,ve A n c] w fun e w'=>e=vl (vd vn (SP p l:Int)) /\ vA w.1.size w w':=by
 obtain ⟨rfl,h1,h2,ra,Ma⟩:=Qb hl;have gm:=Tl h1 h2;have HA:=zH (fun a b w=>bK p a b w hp)
 have HS:=zH (show SP p l=l.foldl (fun s x=>(s+x)%p) 0 from rfl)
 rw [HS.out];clear HS hl h1 h2 hp ra;go_enter func301,ntmps301
 go_wp2_with fail
 go_loopw [5,6] (fun y i wr=>∃ k:Nat,k <= l.length /\ i=vd vq k /\ y=vd vn (((l.take k).foldl (fun s x=>(s+x)%p) 0:Nat):Int) /\ vA w.1.size w wr) (fun _ i _=>l.length-(intOf i).toNat)
 case atStart=>exact ⟨0,Lb _,rfl,rfl,za _ _⟩
 case round =>
  obtain ⟨k,hk,rfl,rfl,Ab⟩:=hrel;by_cases ra:k<l.length
  ·obtain ⟨b,q,rfl,Gb,hc⟩:=Ie (Ma.below Ab) ra
   have HF:=zH (zCG (fun s x=>(s+x)%p) 0 l k ra)
   generalize l.getD k 0=y at *;generalize (l.take k).foldl (fun s x=>(s+x)%p) 0=s at *
   have xe:=zH (fun w=>HA.out s y w)
   have Qy:=zH (show (l.take (k+1)).foldl (fun s x=>(s+x)%p) 0=(s+y)%p from HF.out)
   clear HF;generalize (s+y)%p=z at *;have g1:(0:Int)<=k:=by omega
   have g2:(k:Int)<l.length:=by omega
   go_wp2_with fail
   refine (xe.out _).mono ?_;rintro e w1 ⟨rfl,Ca⟩;replace Ab:=zx Ab Ca Ab.size;clear hc Ca;go_wp2
   go_roundw
   case rel=>exact ⟨k+1,by omega,by go_num,by rw [Qy.out],Ab⟩
   case measure=>simp [intOf];omega
  ·obtain rfl:k=l.length:=by omega
   rw [Cp];go_wp2;go_ret
   exact ⟨rfl,Ab⟩
theorem zEP (p r i:Nat) (w:vw) (hp:Ib p=true) (hr:r<8) (hi:i<3) :
  vB prog 274 #[vd vn p,vd vq r,vd vq i] w fun e w'=>e=vl (vd vn (Aq p r i:Int)) /\ vA w.1.size w w':=by
 obtain ⟨Ed,uc⟩:=Nb hp;have HO:=zH (fun w=>by have:=Ju p w uc;rw [hp] at this;exact this)
 have HC:=zH (show Aq p r i=xt (3*r+i+1)%p from rfl)
 rw [HC.out];clear HC hp;obtain ⟨k,hk⟩:=zEX (3*r+i+1);rw [<- hk];have g1:(r:Int) <= 7:=by omega
 have g2:(i:Int) <= 2:=by omega
 have e1:3*(r:Int)+i+1=(k:Int):=by omega
 have e2:vn.wrap (k:Int)=k:=Ek _ (by omega)
 have e3:vn.wrap ((k:Int)*11400714819323198485)=(xt k:Int):=by
  rw [Ei];have:((k:Int)*11400714819323198485)=((k*11400714819323198485:Nat):Int):=by rw [ig];rfl
  rw [this]
  rfl
 have e4:(xt k:Int)%(p:Int)=((xt k%p:Nat):Int):=rfl;have e5:(xt k:Int).tmod (p:Int)=((xt k%p:Nat):Int):=rfl;have p1:(0:Int)<p:=by omega
 have p3:¬(p=0):=by omega
 clear hk hr hi;generalize xt k%p=m at *;generalize xt k=z at *;go_enter func274,ntmps274
 go_wp2_with fail
 refine (HO.out _).mono ?_;rintro e w1 ⟨rfl,hb⟩;go_wp2;go_ret
 exact ⟨rfl,hb⟩
def nA (f:Nat -> Nat) (s:St):Nat -> St
 | 0=>⟨0,0,0⟩
 | 1=>⟨f s.a,0,0⟩
 | 2=>⟨f s.a,f s.b,0⟩
 | _=>⟨f s.a,f s.b,f s.c⟩
theorem zDy (f:Nat -> Nat) (s:St) {i:Nat} (h:i<3):(nA f s i).cs.setIfInBounds i (vd vn (f (s.at_ i):Int))=(nA f s (i+1)).cs:=by
 rcases (show i=0 \/ i=1 \/ i=2 by omega) with rfl | rfl | rfl <;> simp [nA,St.cs,St.at_]
theorem sum3 (p:Nat) (s:St):SP p [s.a,s.b,s.c]=Mn p s:=by
 simp [SP,Mn]
theorem St.lit (s:St):(Ia [s.a,s.b,s.c]).toArray=s.cs:=rfl
theorem zEU (p:Nat) (s:St) (w:vw) (hp:Ib p=true) (hs:s.ok) :
  vB prog 276 #[vd vn p,s.val] w fun e w'=>e=vl (OC p s).val /\ vA w.1.size w w':=by
 have HA:=zH (fun a b w=>bK p a b w hp)
 have HR:=zH (show OC p s=nA (fun x=>(x+Mn p s)%p) s 3 from rfl)
 rw [HR.out];obtain ⟨k1,k2,k3,da,tb⟩:=rn w 298 298 22 #[vd vn s.a,vd vn s.b,vd vn s.c] #[vd vn 0,vd vn 0,vd vn 0] #[vd vn s.a,vd vn s.b,vd vn s.c];have tY:RWd _ [ve (vE ⟨w.1.size+1+1,0,vD⟩) 3 3] [s.a,s.b,s.c]:=NC (l:=[s.a,s.b,s.c]) k3 (fun x hx=>by
  simp at hx
  rcases hx with rfl | rfl | rfl
  ·exact hs.1
  ·exact hs.2.1
  ·exact hs.2.2) (by simp [maxLen])
 have Zw:=zH (zE5 p _ 3 3 [s.a,s.b,s.c] _ hp tY);rw [sum3] at Zw;clear HR tY hp hs k3;generalize hm:Mn p s=m at *;clear hm;have ev:s.val=vf #[vd vn s.a,vd vn s.b,vd vn s.c]:=rfl;rw [ev];clear ev;go_enter func276,ntmps276
 go_wp2_with fail
 generalize ((w.alloc _).alloc _).alloc _=w0 at k1 k2 da tb Zw |-;refine Zw.out.mono ?_;rintro e w1 ⟨rfl,Ca⟩;replace k1:=ia k1 Ca;replace k2:=ia k2 Ca;replace da:=ma da Ca;have yd:=Ca.size;clear Ca Zw;have ja:=(za w1.1.size w1).alloc zR (.cells #[vd vn 0,vd vn 0,vd vn 0] 298);have k4:=Blk.new w1 298 #[vd vn 0,vd vn 0,vd vn 0];replace k1:=ia k1 ja;replace k2:=ia k2 ja;replace da:=ma da ja;have Xx:w.1.size+1<w1.1.size:=by omega
 clear ja
 go_upto_block 0 with fail
 generalize w1.alloc _=w2 at k1 k2 k4 da |-;generalize w1.1.size=g at k4 Xx |-;clear yd;have k4':Blk w2 g 298 (nA (fun x=>(x+m)%p) s 0).cs:=k4
 have Yf:Blk w2 w.1.size 298 s.cs:=k1;clear k1 k4;go_wp2_with fail
 go_loopw [7] (fun i wr=>∃ k:Nat,k <= 3 /\ i=vd vq k /\ Blk wr w.1.size 298 s.cs /\ Blk wr (w.1.size+1) 298 #[vd vn 0,vd vn 0,vd vn 0] /\ Blk wr g 298 (nA (fun x=>(x+m)%p) s k).cs /\ vA w.1.size w wr) (fun i _=>3-(intOf i).toNat)
 case atStart=>exact ⟨0,Lb _,rfl,Yf,k2,k4',da⟩
 case round =>
  clear Yf k2 k4' da;obtain ⟨k,hk,rfl,k1,k2,k4,da⟩:=hrel;by_cases ra:k<3
  ·have g1:(k:Int)<3:=by omega
   have cm:=k1.cell k;rw [St.cs_at _ ra] at cm;obtain ⟨y,hy⟩:=zEX ((s.at_ k+m)%p);have JK:=zH (show (nA (fun x=>(x+m)%p) s k).cs.setIfInBounds k (vd vn y)=(nA (fun x=>(x+m)%p) s (k+1)).cs from by rw [hy];exact zDy (fun x=>(x+m)%p) s ra)
   have xe:=zH (fun w=>HA.out (s.at_ k) m w)
   rw [<- hy] at xe;clear hy;have cz:=k4.cell k;rw [St.cs_at _ ra] at cz;generalize (nA (fun x=>(x+m)%p) s k).at_ k=old at cz
   generalize s.at_ k=x at *;go_wp2_with fail
   refine (xe.out _).mono ?_;rintro e w3 ⟨rfl,Ua⟩;have cz3:w3.cell? ⟨g,k,vD⟩=vE (vd vn old):=(Below.cell Ua (mf _ _ cz)).trans cz;replace k1:=ia k1 Ua;replace k2:=ia k2 Ua;replace k4:=ia k4 Ua;replace da:=ma da Ua;have f4:=k4.frozen k;clear cz cm Ua;go_wp2_with fail
   have hg:w3.grownBy (w3.setCell ⟨g,k,vD⟩ (vd vn y)) (vE g):=Mf (p:=⟨g,k,vD⟩) (Vd w3 _) (.inl rfl) _;replace k4:=k4.set_ k (vd vn y);rw [JK.out] at k4;replace k1:=k1.grown hg (fun e=>by have:=db e;omega)
   replace k2:=k2.grown hg (fun e=>by have:=db e;omega)
   replace da:=Dd da hg;clear hg f4 cz3;generalize w3.setCell _ _=Wf at k1 k2 k4 da |-
   go_roundw
   case rel=>exact ⟨k+1,by omega,by go_num,k1,k2,k4,da⟩
   case measure=>simp [intOf];omega
  ·obtain rfl:k=3:=by omega
   obtain ⟨q,hq⟩:=zEX (nA (fun x=>(x+m)%p) s 3)
   rw [<- hq] at k4;have HQ:=zH hq;clear hq;have k4':Blk wr g 298 #[vd vn q.a,vd vn q.b,vd vn q.c]:=k4;have c4:=k4'.cell;have c2:=k2.cell;have f2:=k2.frozen;go_wp2_with fail
   have hg:=Xo (w:=wr) (g:=w.1.size+1) (vd vn q.a) (vd vn q.b) (vd vn q.c);have kz:=Wo k2 (vd vn q.a) (vd vn q.b) (vd vn q.c);clear c4 c2 f2 k2;generalize ((vF wr _ _).setCell _ _).setCell _ _=Wf at hg kz |-;have cz:=kz.cell;have hs:=da.size;exact ed (v:=vf #[vd vn q.a,vd vn q.b,vd vn q.c]) (by simp [results,results276,go_sem,cz]) rfl ⟨by rw [<- HQ.out];rfl,da.trans (Ok hg hs (by omega))⟩
theorem St.ok_of_lt {s:St} {p:Nat} (hp:p<18446744073709551616) (h1:s.a<p) (h2:s.b<p) (h3:s.c<p):s.ok:=⟨by omega,by omega,by omega⟩
theorem zFG {p:Nat} (h1:0<p) (r i x:Nat):Cr p r i x<p:=ic _ h1
theorem J5 (p:Nat) (s:St) (w:vw) (hp:Ib p=true) :
  vB prog 209 #[vd vn p,s.val] w fun e w'=>e=vl (Zp p s).val /\ vA w.1.size w w':=by
 obtain ⟨Ed,uc⟩:=Nb hp;have HV:=zH (fun w=>by have:=Ju p w uc;rw [hp] at this;exact this)
 have HE:=zH (fun w=>zEQ p w hp)
 have HC:=zH (fun r i w hr hi=>zEP p r i w hp hr hi)
 have HA:=zH (fun a b w=>bK p a b w hp)
 have HP:=zH (fun a n w hn=>zEZ p a n w hp hn)
 have HM:=zH (fun s w h=>zEU p s w hp h)
 have HSO:=zH (show ∀ (f:Nat -> Nat -> Nat) (t:St),(∀ i x,f i x<p) -> (zw f t 3).ok from fun f t h=>St.ok_of_lt uc (h 0 _) (h 1 _) (h 2 _))
 have HSL:=zH (show ∀ r i x,Cr p r i x<p from fun r i x=>zFG (by omega) r i x)
 have Li:=(s6 hp).2;have HSB:=zH (show ∀ r i x,Cr p r i x=((x+Aq p r i)%p)^(Mb p).2.2%p from fun _ _ _=>rfl)
 clear hp Ed uc;generalize (Mb p).2.2=ex at *;have HEL:=zH Li;clear Li;obtain ⟨k1,k2,da,tb⟩:=Ih w 298 298 #[vd vn s.a,vd vn s.b,vd vn s.c] #[vd vn 0,vd vn 0,vd vn 0];have HPO:=zH (show (Zp p s).val=(aq p s 8).val from rfl)
 rw [HPO.out];clear HPO;have ev:s.val=vf #[vd vn s.a,vd vn s.b,vd vn s.c]:=rfl;rw [ev];clear ev;go_enter func209,ntmps209
 go_wp2_with fail
 generalize (w.alloc _).alloc _=w0 at k1 k2 da tb |-;refine (HV.out _).mono ?_;rintro e w2 ⟨rfl,Aa⟩;replace k1:Blk w2 w.1.size 298 (aq p s 0).cs:=ia k1 Aa;replace k2:=ia k2 Aa;replace da:=ma da Aa;clear Aa tb HV;go_wp2_with fail
 go_loopw [5] (fun i wr=>∃ r:Nat,r <= 8 /\ i=vd vq r /\ Blk wr w.1.size 298 (aq p s r).cs /\ Blk wr (w.1.size+1) 298 #[vd vn 0,vd vn 0,vd vn 0] /\ vA w.1.size w wr) (fun i _=>8-(intOf i).toNat)
 case atStart=>exact ⟨0,Lb _,rfl,k1,k2,da⟩
 case round =>
  clear k1 k2 da;obtain ⟨r,hr,rfl,k1,k2,da⟩:=hrel;by_cases ra:r<8
  ·have g1:(r:Int)<8:=by omega
   obtain ⟨t,ht⟩:=zEX (aq p s r);rw [<- ht] at k1;have HT:=zH (show aq p s (r+1)=OC p (zw (Cr p r) t 3) by rw [aq,<- ht];rfl)
   clear ht;go_wp2_with fail
   go_loopw [6] (fun i wr=>∃ m:Nat,m <= 3 /\ i=vd vq m /\ Blk wr w.1.size 298 (zw (Cr p r) t m).cs /\ Blk wr (w.1.size+1) 298 #[vd vn 0,vd vn 0,vd vn 0] /\ vA w.1.size w wr) (fun i _=>3-(intOf i).toNat)
   case atStart=>exact ⟨0,Lb _,rfl,k1,k2,da⟩
   case round =>
    clear k1 k2 da;obtain ⟨m,hm,rfl,k1,k2,da⟩:=hrel;by_cases xf:m<3
    ·have g2:(m:Int)<3:=by omega
     have cm:=k1.cell m;rw [St.cs_at _ xf,o7 _ _ xf] at cm;have JK:=zH (p7 (Cr p r) t xf);have ZA:=zH (HSB.out r m (t.at_ m));have tl:=zH (fun w=>HC.out r m w ra xf)
     have xe:=zH (fun w=>HA.out (t.at_ m) (Aq p r m) w)
     have Qr:=zH (fun w=>HP.out ((t.at_ m+Aq p r m)%p) ex w HEL.out)
     rw [<- ZA.out] at Qr;clear ZA;generalize Cr p r m (t.at_ m)=sv at *;generalize (t.at_ m+Aq p r m)%p=av at *;generalize Aq p r m=cv at *;generalize t.at_ m=xv at *;have l1:=k1.lt;go_wp2_with fail
     refine Ve (Tb) (pa) [15] [15] [0,1,2,3,4,5,6,7,8,9,10,11,12,13,14,15] (by kernel_rfl) (by kernel_rfl) ?_
     refine Xe (pa) ?_;intro Wc ea;refine kd ?_;refine Uc (pa) rfl rfl rfl rfl (fun _ _ _ h=>h) (fun _=>by go_simp <;> rfl) (fun w' hR=>tl.out _) ?_
     refine zPU ?_;refine kd ?_;refine Uc (pa) rfl rfl rfl rfl (fun _ _ _ h=>h) (fun _=>by go_simp <;> rfl) (fun w' hR=>xe.out _) ?_
     refine zPU ?_;refine kd ?_;refine Uc (pa) rfl rfl rfl rfl (fun _ _ _ h=>h) (fun _=>by go_simp <;> rfl) (fun w' hR=>HE.out _) ?_
     refine zPU ?_;refine kd ?_;refine Uc (pa) rfl rfl rfl rfl (fun _ _ _ h=>h) (fun _=>by go_simp <;> rfl) (fun w' hR=>Qr.out _) ?_
     refine zPU ?_;refine kd ?_;refine Ti rfl rfl rfl rfl ?_;intro wh Bc;replace ea:=(pa).trans _ _ _ ea Bc;replace k1:=k1.drew.below ea k1.lt;replace k2:=k2.drew.below ea k2.lt;replace da:=ma da.drew ea;have f1:=k1.frozen m;have jv:wh.cell? ⟨w.1.size,m,vD⟩=vE (vd vn xv):=RW ea cm;clear l1 cm;go_simp;refine ⟨fun h=>Bool.noConfusion h,?_⟩
     have hg:wh.grownBy (wh.setCell ⟨w.1.size,m,vD⟩ (vd vn sv)) (vE w.1.size):=Mf (p:=⟨w.1.size,m,vD⟩) (Vd wh _) (.inl rfl) _;replace k1:=k1.set_ m (vd vn sv);rw [JK.out] at k1;replace k2:=k2.grown hg (fun e=>by have:=db e;omega)
     replace da:=da.trans (Ok hg da.size zR);clear hg f1 jv;generalize wh.setCell _ _=Wf at k1 k2 da |-;refine Dj rfl ?_;go_wp2
     go_roundw
     case rel=>exact ⟨m+1,by omega,by go_num,k1,k2,da⟩
     case measure=>simp [intOf];omega
    ·obtain rfl:m=3:=by omega
     obtain ⟨q,hq⟩:=zEX (zw (Cr p r) t 3);have hqo:q.ok:=by rw [hq];exact HSO.out _ _ (HSL.out r)
     rw [<- hq] at k1 HT;clear hq;have Yf:Blk wr w.1.size 298 #[vd vn q.a,vd vn q.b,vd vn q.c]:=k1;obtain ⟨z,hz⟩:=zEX (OC p q);rw [<- hz] at HT;have Le:=zH (show ∀ w,vB prog 276 #[vd vn p,vf #[vd vn q.a,vd vn q.b,vd vn q.c]] w fun e w'=>e=vl (vf #[vd vn z.a,vd vn z.b,vd vn z.c]) /\ vA w.1.size w w' from fun w=>by rw [hz];exact HM.out q w hqo)
     clear hz k1 hqo;have c1:=Yf.cell;go_wp2_with fail
     refine (Le.out _).mono ?_;rintro e w5 ⟨rfl,Wa⟩;replace Yf:=Yf.below Wa Yf.lt;replace k2:=ia k2 Wa;replace da:=ma da Wa;clear Wa c1;have c1:=Yf.cell;have f1:=Yf.frozen;go_wp2_with fail
     have hg:=Xo (w:=w5) (g:=w.1.size) (vd vn z.a) (vd vn z.b) (vd vn z.c);have kz:=Wo Yf (vd vn z.a) (vd vn z.b) (vd vn z.c);replace k2:=k2.grown hg (fun e=>by have:=db e;omega)
     replace da:=da.trans (Ok hg da.size zR);clear hg c1 f1 Yf;generalize ((vF w5 _ _).setCell _ _).setCell _ _=Wf at kz k2 da |-
     go_roundw
     case rel=>exact ⟨r+1,by omega,by go_num,by rw [HT.out];exact kz,k2,da⟩
     case measure=>simp [intOf];omega
  ·obtain rfl:r=8:=by omega
   obtain ⟨q,hq⟩:=zEX (aq p s 8);rw [<- hq] at k1;have HQ:=zH hq;clear hq;have Yf:Blk wr w.1.size 298 #[vd vn q.a,vd vn q.b,vd vn q.c]:=k1;have c1:=Yf.cell;have c2:=k2.cell;have f2:=k2.frozen;go_wp2_with fail
   have hg:=Xo (w:=wr) (g:=w.1.size+1) (vd vn q.a) (vd vn q.b) (vd vn q.c);have kz:=Wo k2 (vd vn q.a) (vd vn q.b) (vd vn q.c);clear c1 c2 f2 k2;generalize ((vF wr _ _).setCell _ _).setCell _ _=Wf at hg kz |-;have cz:=kz.cell;have hs:=da.size;exact ed (v:=vf #[vd vn q.a,vd vn q.b,vd vn q.c]) (by simp [results,results209,go_sem,cz]) rfl ⟨by rw [<- HQ.out];rfl,da.trans (Ok hg hs (by omega))⟩
def rm (p:Nat):List Nat -> St -> St
 | [],s=>s
 | [x],s=>Zp p ⟨(s.a+x)%p,s.b,s.c⟩
 | x :: y :: r,s=>rm p r (Zp p ⟨(s.a+x)%p,(s.b+y)%p,s.c⟩)
def um (p label:Nat) (l:List Nat):St:=rm p l ⟨0,0,(label*65536%p+l.length)%p⟩
theorem qR {l:List Nat} {i:Nat} (h:i+1<l.length):l.drop i=l.getD i 0 :: l.getD (i+1) 0 :: l.drop (i+2):=by
 rw [List.drop_eq_getElem_cons (by omega),List.drop_eq_getElem_cons h,Jb,Jb,oc h,oc (show i<l.length by omega)]
 rfl
theorem pR {l:List Nat} {i:Nat} (h:i+1=l.length):l.drop i=[l.getD i 0]:=by
 rw [List.drop_eq_getElem_cons (by omega),Jb,oc (show i<l.length by omega),List.drop_of_length_le (by omega)]
 rfl
theorem Z2 (p label:Nat) (A:Option vy) (n c:Nat) (l:List Nat) (w:vw) (hp:Ib p=true) (hl:RWd w [ve A n c] l) (Ta:0<l.length) (hlen:l.length <= 1000000) :
  vB prog 271 #[vd vn p,vd vn label,ve A n c] w fun e w'=>e=vl (um p label l).val /\ vA w.1.size w w':=by
 obtain ⟨rfl,h1,h2,ra,Ma⟩:=Qb hl;have gm:=Tl h1 h2;have HMu:=zH (fun w=>Gq p label 65536 w hp)
 have fG:=zH (fun w=>xm p (label*65536%p) l.length w hp)
 have HA:=zH (fun a b w=>xm p a b w hp)
 have HP:=zH (fun s w=>W3 p s w hp)
 have HF:=zH (show um p label l=rm p (l.drop 0) ⟨0,0,(label*65536%p+l.length)%p⟩ from rfl)
 have ew:vn.wrap (l.length:Int)=l.length:=Ek _ (by omega)
 generalize um p label l=fin at *;generalize (label*65536%p+l.length)%p=c0 at *;generalize label*65536%p=m0 at *;unfold fv at *;clear hl h1 h2 hp;have d0:((l.length:Int) == 0)=false:=by rw [pd];omega
 obtain ⟨kr,kf,da,tb⟩:=Ih w 298 224 #[vd vn 0,vd vn 0,vd vn 0] #[vd vn p];go_enter func271,ntmps271
 go_wp2_with fail
 generalize (w.alloc _).alloc _=w0 at kr kf da tb |-;have cf:=kf.cell;have lf:=kf.lt;refine Ve (Tb) (pa) [9,10] [10] [0,1,2,3,4,5,6,7,8,9,10] (by kernel_rfl) (by kernel_rfl) ?_
 refine Xe (pa) ?_;intro Wc ea;refine kd ?_;refine Uc (pa) rfl rfl rfl rfl (fun _ _ _ h=>h) (fun _=>by go_simp <;> rfl) (fun w' hR=>HMu.out _) ?_
 refine zPU ?_;refine kd ?_;refine Uc (pa) rfl rfl rfl rfl (fun _ _ _ h=>h) (fun _=>by go_simp <;> rfl) (fun w' hR=>fG.out _) ?_
 refine zPU ?_;refine kd ?_;refine Ti rfl rfl rfl rfl ?_;intro wh Bc;replace ea:=(pa).trans _ _ _ ea Bc;go_simp;refine ⟨fun _=>(za _ _).alloc zR _,?_⟩
 replace kr:=kr.drew.below ea kr.lt;replace kf:=kf.drew.below ea kf.lt;replace da:=ma da.drew ea;have hsw:w.1.size+1<wh.1.size:=kf.lt;have ja:=(za wh.1.size wh).alloc zR (.cells #[vd vn 0,vd vn 0,vd vn 0] 298);have ks:=Blk.new wh 298 #[vd vn 0,vd vn 0,vd vn 0];replace kr:=ia kr ja;replace kf:=ia kf ja;replace da:=ma da ja;clear ea ja cf lf tb Bc
 refine zPU ?_
 generalize wh.alloc _=w2 at kr kf da ks |-;generalize wh.1.size=g at ks hsw |-;have ea:=pa.refl w2;refine Ti rfl rfl rfl rfl ?_;intro wh Bc;replace ea:=(pa).trans _ _ _ ea Bc;replace kr:=ia kr ea;replace kf:=ia kf ea;replace ks:=ia ks ea;replace da:=ma da ea;have c2:=ks.cell;have f2:=ks.frozen;go_simp;refine ⟨fun h=>Bool.noConfusion h,?_⟩
 have hg:=Xo (w:=wh) (g:=g) (vd vn 0) (vd vn 0) (vd vn c0);have kz:=Wo ks (vd vn 0) (vd vn 0) (vd vn c0);replace kr:=kr.grown hg (fun e=>by have:=db e;omega)
 replace kf:=kf.grown hg (fun e=>by have:=db e;omega)
 replace da:=Dd da hg;clear c2 f2 ks hg ea Bc;generalize ((vF wh _ _).setCell _ _).setCell _ _=w4 at kz kr kf da |-;have ks:Blk w4 g 298 (St.mk 0 0 c0).cs:=kz;clear kz;refine Dj rfl ?_;go_wp2_with fail
 go_loopw [9] (fun y wr=>∃ (i:Nat) (q:St),i <= l.length+1 /\ y=vd vq i /\ Blk wr w.1.size 298 #[vd vn 0,vd vn 0,vd vn 0] /\ Blk wr (w.1.size+1) 224 #[vd vn p] /\ Blk wr g 298 q.cs /\ vA w.1.size w wr /\ Hid (rm p (l.drop i) q=fin)) (fun y _=>l.length-(intOf y).toNat)
 case atStart=>exact ⟨0,⟨0,0,c0⟩,by omega,rfl,kr,kf,ks,da,HF.out.symm⟩
 case round =>
  clear kr kf ks da;obtain ⟨i,q,hi,rfl,kr,kf,ks,da,HI⟩:=hrel;obtain ⟨qa,qb,qc⟩:=q;have Qi:Blk wr g 298 #[vd vn qa,vd vn qb,vd vn qc]:=ks;replace ks:=Qi;clear Qi;by_cases Np:i<l.length
  ·have hx:=qI ra Np
   obtain ⟨bb,bq,eA,Gb,cl⟩:=Ie (Ma.below da) Np;have Wb:=zH ra;have Ww:=zH Ma;have Ru:=zH Np;have g1:(0:Int)<=i:=by omega
   have g2:(i:Int)<l.length:=by omega
   by_cases Hf:i+1<l.length
   ·obtain ⟨bb2,bq2,Dx,Kp,Fl⟩:=Ie (Ma.below da) Hf
    have HD:=zH (qR Hf);obtain ⟨i1,IE⟩:=zEX (i+1);have e1:(i:Int)+1=(i1:Int):=by omega
    have e2:vq.wrap ((i:Int)+1)=(i1:Int):=by rw [so];omega
    have e3:vq.wrap (i1:Int)=i1:=by rw [so];omega
    have g4:(0:Int)<=i1:=by omega
    have g3:(i1:Int)<l.length:=by omega
    have Gk:=zH (show i1<l.length by omega)
    have BK:=zH IE;rw [eA] at Dx;have YG:=db Dx
    injection YG with e5 e6
    subst e5 e6;subst eA;clear Dx Kp;have xl:=zH (show rm p (l.getD i 0 :: l.getD (i+1) 0 :: l.drop (i+2)) ⟨qa,qb,qc⟩=fin by rw [<- HD.out];exact HI.out)
    clear HD ra Ma Hf hx IE;obtain ⟨y,hy⟩:=zEX (l.getD (i+1) 0);generalize l.getD i 0=x at *;rw [<- hy] at xl Fl;have HY:=zH hy.symm;clear hy;have xe:=zH (fun w=>HA.out qa x w)
    have Qu:=zH (fun w=>HA.out qb y w)
    obtain ⟨na,mi⟩:=zEX ((qa+x)%p);obtain ⟨nb,Rq⟩:=zEX ((qb+y)%p);rw [<- mi] at xe;rw [<- Rq] at Qu;obtain ⟨z,hz⟩:=zEX (Zp p ⟨na,nb,qc⟩);have HX:=zH (show ∀ w,vB prog 300 #[vd vn p,vf #[vd vn na,vd vn nb,vd vn qc]] w fun e w'=>e=vl (vf #[vd vn z.a,vd vn z.b,vd vn z.c]) /\ vA w.1.size w w' from fun w=>by rw [hz];exact HP.out ⟨na,nb,qc⟩ w)
    have HZ:=zH (show rm p (l.drop (i+2)) z=fin by rw [hz];rw [mi,Rq];exact xl.out)
    clear hz;clear xl mi Rq;have cs:=ks.cell;have ls:=ks.lt;have cf:=kf.cell;have lf:=kf.lt;have cl2H:=zH Fl;clear Fl;go_wp2_with fail
    refine Ve (Tb) (pa) [9] [9] [0,1,2,3,4,5,6,7,8,9] (by kernel_rfl) (by kernel_rfl) ?_
    refine Xe (pa) ?_;intro Wc ea;refine kd ?_;refine Uc (pa) rfl rfl rfl rfl (fun _ _ _ h=>h) (fun _=>by go_simp <;> rfl) (fun w' hR=>xe.out _) ?_
    refine zPU ?_;refine kd ?_;refine Ti rfl rfl rfl rfl ?_;intro wh Bc;replace ea:=(pa).trans _ _ _ ea Bc;replace kr:=kr.drew.below ea kr.lt;replace ks:=ks.drew.below ea ks.lt;replace kf:=kf.drew.below ea kf.lt;replace da:=ma da.drew ea;clear cs cf lf ls ea Bc cl;have c2:=ks.cell;have f2:=ks.frozen;go_simp;refine ⟨fun h=>Bool.noConfusion h,?_⟩
    have hg:wh.grownBy (wh.setCell ⟨g,0,vD⟩ (vd vn na)) (vE g):=Mf (p:=⟨g,0,vD⟩) (Vd wh _) (.inl rfl) _;replace ks:=ks.set_ 0 (vd vn na);simp at ks
    replace kr:=kr.grown hg (fun e=>by have:=db e;omega)
    replace kf:=kf.grown hg (fun e=>by have:=db e;omega)
    replace da:=Dd da hg;clear hg c2 f2;generalize wh.setCell _ _=qx at ks kr da kf |-;refine Dj rfl ?_;have Fl:qx.cell? ⟨bb,bq+i1,vD⟩=vE (vd vn y):=by obtain ⟨b3,q3,e3,-,h3⟩:=Ie (Ww.out.below da) Gk.out;have e4:=db e3;injection e4 with e5 e6;subst e5 e6;rw [h3,BK.out,HY.out]
    have Kp:bb<qx.1.size:=mf _ _ Fl;have cs:=ks.cell;have ls:=ks.lt;have cf:=kf.cell;have lf:=kf.lt;go_wp2_with fail
    refine Ve (Tb) (pa) [10] [10] [0,1,2,3,4,5,6,7,8,9,10] (by kernel_rfl) (by kernel_rfl) ?_
    refine Xe (pa) ?_;intro Wc ea;refine kd ?_;refine Uc (pa) rfl rfl rfl rfl (fun _ _ _ h=>h) (fun _=>by go_simp <;> rfl) (fun w' hR=>Qu.out _) ?_
    refine zPU ?_;refine kd ?_;refine Ti rfl rfl rfl rfl ?_;intro wh Bc;replace ea:=(pa).trans _ _ _ ea Bc;replace kr:=kr.drew.below ea kr.lt;replace ks:=ks.drew.below ea ks.lt;replace kf:=kf.drew.below ea kf.lt;replace da:=ma da.drew ea;clear cs cf lf ls ea Bc Fl;have c2:=ks.cell;have f2:=ks.frozen;go_simp;refine ⟨fun h=>Bool.noConfusion h,?_⟩
    have hg:wh.grownBy (wh.setCell ⟨g,1,vD⟩ (vd vn nb)) (vE g):=Mf (p:=⟨g,1,vD⟩) (Vd wh _) (.inl rfl) _;replace ks:=ks.set_ 1 (vd vn nb);simp at ks
    replace kr:=kr.grown hg (fun e=>by have:=db e;omega)
    replace kf:=kf.grown hg (fun e=>by have:=db e;omega)
    replace da:=Dd da hg;clear hg c2 f2;generalize wh.setCell _ _=Wf1 at ks kr da kf |-;refine Dj rfl ?_;have cs:=ks.cell;go_wp2_with fail
    refine (HX.out _).mono ?_;rintro e w5 ⟨rfl,Wa⟩;replace kr:=ia kr Wa;replace ks:=ia ks Wa;replace kf:=ia kf Wa;replace da:=ma da Wa;clear cs Wa;have cs:=ks.cell;have fs:=ks.frozen;go_wp2_with fail
    have hg:=Xo (w:=w5) (g:=g) (vd vn z.a) (vd vn z.b) (vd vn z.c);have kz:=Wo ks (vd vn z.a) (vd vn z.b) (vd vn z.c);replace kr:=kr.grown hg (fun e=>by have:=db e;omega)
    replace kf:=kf.grown hg (fun e=>by have:=db e;omega)
    replace da:=Dd da hg;clear hg cs fs ks;generalize ((vF w5 _ _).setCell _ _).setCell _ _=Wz at kz kr da kf |-
    go_roundw
    case rel=>exact ⟨i+2,z,by omega,by go_num,kr,kf,kz,da,HZ.out⟩
    case measure=>simp [intOf];omega
   ·have Pq:i+1=l.length:=by omega
    have HD:=zH (pR Pq);have g3:¬((i:Int)+1<(l.length:Int)):=by omega
    subst eA;have xl:=zH (show rm p [l.getD i 0] ⟨qa,qb,qc⟩=fin by rw [<- HD.out];exact HI.out)
    have yD:=zH (show l.drop (i+2)=[] from List.drop_of_length_le (by omega))
    clear HD ra Ma hx;generalize l.getD i 0=x at *;have xe:=zH (fun w=>HA.out qa x w)
    obtain ⟨na,mi⟩:=zEX ((qa+x)%p);rw [<- mi] at xe;obtain ⟨z,hz⟩:=zEX (Zp p ⟨na,qb,qc⟩);have HX:=zH (show ∀ w,vB prog 300 #[vd vn p,vf #[vd vn na,vd vn qb,vd vn qc]] w fun e w'=>e=vl (vf #[vd vn z.a,vd vn z.b,vd vn z.c]) /\ vA w.1.size w w' from fun w=>by rw [hz];exact HP.out ⟨na,qb,qc⟩ w)
    have HZ:=zH (show rm p (l.drop (i+2)) z=fin by rw [hz];rw [yD.out,mi];exact xl.out)
    clear hz;clear xl yD Hf Pq mi;have cs:=ks.cell;have ls:=ks.lt;have cf:=kf.cell;have lf:=kf.lt;go_wp2_with fail
    refine Ve (Tb) (pa) [9] [9] [0,1,2,3,4,5,6,7,8,9] (by kernel_rfl) (by kernel_rfl) ?_
    refine Xe (pa) ?_;intro Wc ea;refine kd ?_;refine Uc (pa) rfl rfl rfl rfl (fun _ _ _ h=>h) (fun _=>by go_simp <;> rfl) (fun w' hR=>xe.out _) ?_
    refine zPU ?_;refine kd ?_;refine Ti rfl rfl rfl rfl ?_;intro wh Bc;replace ea:=(pa).trans _ _ _ ea Bc;replace kr:=kr.drew.below ea kr.lt;replace ks:=ks.drew.below ea ks.lt;replace kf:=kf.drew.below ea kf.lt;replace da:=ma da.drew ea;clear cs cf lf ls ea Bc cl;have c2:=ks.cell;have f2:=ks.frozen;go_simp;refine ⟨fun h=>Bool.noConfusion h,?_⟩
    have hg:wh.grownBy (wh.setCell ⟨g,0,vD⟩ (vd vn na)) (vE g):=Mf (p:=⟨g,0,vD⟩) (Vd wh _) (.inl rfl) _;replace ks:=ks.set_ 0 (vd vn na);simp at ks
    replace kr:=kr.grown hg (fun e=>by have:=db e;omega)
    replace kf:=kf.grown hg (fun e=>by have:=db e;omega)
    replace da:=Dd da hg;clear hg c2 f2;generalize wh.setCell _ _=qx at ks kr da kf |-;refine Dj rfl ?_;have cs:=ks.cell;go_wp2_with fail
    refine (HX.out _).mono ?_;rintro e w5 ⟨rfl,Wa⟩;replace kr:=ia kr Wa;replace ks:=ia ks Wa;replace kf:=ia kf Wa;replace da:=ma da Wa;clear cs Wa;have cs:=ks.cell;have fs:=ks.frozen;go_wp2_with fail
    have hg:=Xo (w:=w5) (g:=g) (vd vn z.a) (vd vn z.b) (vd vn z.c);have kz:=Wo ks (vd vn z.a) (vd vn z.b) (vd vn z.c);replace kr:=kr.grown hg (fun e=>by have:=db e;omega)
    replace kf:=kf.grown hg (fun e=>by have:=db e;omega)
    replace da:=Dd da hg;clear hg cs fs ks;generalize ((vF w5 _ _).setCell _ _).setCell _ _=Wz at kz kr da kf |-
    go_roundw
    case rel=>exact ⟨i+2,z,by omega,by go_num,kr,kf,kz,da,HZ.out⟩
    case measure=>simp [intOf];omega
  ·have HQ:=zH (show (⟨qa,qb,qc⟩:St)=fin by have:=HI.out;rw [List.drop_of_length_le (by omega)] at this;exact this)
   have g2:¬((i:Int)<l.length):=by omega
   have cs:=ks.cell;have cr:=kr.cell;have fr:=kr.frozen;clear Ma ra;go_wp2_with fail
   have hg:=Xo (w:=wr) (g:=w.1.size) (vd vn qa) (vd vn qb) (vd vn qc);have kz:=Wo kr (vd vn qa) (vd vn qb) (vd vn qc);clear cs cr fr kr ks;generalize ((vF wr _ _).setCell _ _).setCell _ _=Wz at hg kz |-;have cz:=kz.cell;exact ed (v:=vf #[vd vn qa,vd vn qb,vd vn qc]) (by simp [results,results271,go_sem,cz]) rfl ⟨by rw [<- HQ.out];rfl,da.trans (Ok hg da.size zR)⟩
theorem zEO (p label:Nat) (A:Option vy) (n c:Nat) (l:List Nat) (w:vw) (hp:Ib p=true) (hl:RWd w [ve A n c] l) (Ta:0<l.length) (hlen:l.length <= 1000000) :
  vB prog 208 #[vd vn p,vd vn label,ve A n c] w fun e w'=>e=vl (um p label l).val /\ vA w.1.size w w':=by
 obtain ⟨rfl,h1,h2,ra,Ma⟩:=Qb hl;have gm:=Tl h1 h2;have HMu:=zH (fun w=>zP p label 65536 w hp)
 have fG:=zH (fun w=>bK p (label*65536%p) l.length w hp)
 have HA:=zH (fun a b w=>bK p a b w hp)
 have HP:=zH (fun s w=>J5 p s w hp)
 have HF:=zH (show um p label l=rm p (l.drop 0) ⟨0,0,(label*65536%p+l.length)%p⟩ from rfl)
 have ew:vn.wrap (l.length:Int)=l.length:=Ek _ (by omega)
 generalize um p label l=fin at *;generalize (label*65536%p+l.length)%p=c0 at *;generalize label*65536%p=m0 at *;clear hl h1 h2 hp;have da:vA w.1.size w (w.alloc (.cells #[vd vn 0,vd vn 0,vd vn 0] 298)):=(za _ _).alloc zR _;have kr:=Blk.new w 298 #[vd vn 0,vd vn 0,vd vn 0];go_enter func208,ntmps208
 go_wp2_with fail
 generalize w.alloc _=w0 at kr da |-;refine (HMu.out _).mono ?_;rintro e w1 ⟨rfl,Ca⟩;replace kr:=ia kr Ca;replace da:=ma da Ca;go_wp2_with fail
 refine (fG.out _).mono ?_;rintro e w2 ⟨rfl,Aa⟩;replace kr:=ia kr Aa;replace da:=ma da Aa;have hsw:w.1.size<w2.1.size:=kr.lt;have ja:=(za w2.1.size w2).alloc zR (.cells #[vd vn 0,vd vn 0,vd vn c0] 298);have ks:Blk _ w2.1.size 298 (St.mk 0 0 c0).cs:=Blk.new w2 298 #[vd vn 0,vd vn 0,vd vn c0];replace kr:=ia kr ja;replace da:=ma da ja;clear Ca Aa ja
 go_upto_block 0 with fail
 generalize w2.alloc _=w4 at kr ks da |-;generalize w2.1.size=g at ks hsw |-;go_wp2_with fail
 go_loopw [8] (fun y wr=>∃ (i:Nat) (q:St),i <= l.length+1 /\ y=vd vq i /\ Blk wr w.1.size 298 #[vd vn 0,vd vn 0,vd vn 0] /\ Blk wr g 298 q.cs /\ vA w.1.size w wr /\ Hid (rm p (l.drop i) q=fin)) (fun y _=>l.length-(intOf y).toNat)
 case atStart=>exact ⟨0,⟨0,0,c0⟩,by omega,rfl,kr,ks,da,HF.out.symm⟩
 case round =>
  clear kr ks da;obtain ⟨i,q,hi,rfl,kr,ks,da,HI⟩:=hrel;obtain ⟨qa,qb,qc⟩:=q;have Qi:Blk wr g 298 #[vd vn qa,vd vn qb,vd vn qc]:=ks;replace ks:=Qi;clear Qi;by_cases Np:i<l.length
  ·have hx:=qI ra Np
   obtain ⟨bb,bq,eA,Gb,cl⟩:=Ie (Ma.below da) Np;have Wb:=zH ra;have Ww:=zH Ma;have Ru:=zH Np;have g1:(0:Int)<=i:=by omega
   have g2:(i:Int)<l.length:=by omega
   have hdi:((i:Int) == 0)=true \/ ((i:Int) == 0)=false:=by cases ((i:Int) == 0) <;> simp
   rcases hdi with di | di
   ·by_cases Hf:i+1<l.length
    ·obtain ⟨bb2,bq2,Dx,Kp,Fl⟩:=Ie (Ma.below da) Hf
     have HD:=zH (qR Hf);obtain ⟨i1,IE⟩:=zEX (i+1);have e1:(i:Int)+1=(i1:Int):=by omega
     have e2:vq.wrap ((i:Int)+1)=(i1:Int):=by rw [so];omega
     have e3:vq.wrap (i1:Int)=i1:=by rw [so];omega
     have g4:(0:Int)<=i1:=by omega
     have g3:(i1:Int)<l.length:=by omega
     have Gk:=zH (show i1<l.length by omega)
     have BK:=zH IE;rw [eA] at Dx;have YG:=db Dx
     injection YG with e5 e6
     subst e5 e6;subst eA;clear Dx Kp;have xl:=zH (show rm p (l.getD i 0 :: l.getD (i+1) 0 :: l.drop (i+2)) ⟨qa,qb,qc⟩=fin by rw [<- HD.out];exact HI.out)
     clear HD ra Ma Hf hx IE;obtain ⟨y,hy⟩:=zEX (l.getD (i+1) 0);generalize l.getD i 0=x at *;rw [<- hy] at xl Fl;have HY:=zH hy.symm;clear hy;have xe:=zH (fun w=>HA.out qa x w)
     have Qu:=zH (fun w=>HA.out qb y w)
     obtain ⟨na,mi⟩:=zEX ((qa+x)%p);obtain ⟨nb,Rq⟩:=zEX ((qb+y)%p);rw [<- mi] at xe;rw [<- Rq] at Qu;obtain ⟨z,hz⟩:=zEX (Zp p ⟨na,nb,qc⟩);have HX:=zH (show ∀ w,vB prog 209 #[vd vn p,vf #[vd vn na,vd vn nb,vd vn qc]] w fun e w'=>e=vl (vf #[vd vn z.a,vd vn z.b,vd vn z.c]) /\ vA w.1.size w w' from fun w=>by rw [hz];exact HP.out ⟨na,nb,qc⟩ w)
     have HZ:=zH (show rm p (l.drop (i+2)) z=fin by rw [hz];rw [mi,Rq];exact xl.out)
     clear hz;clear xl mi Rq;have cs:=ks.cell;have ls:=ks.lt;have cl2H:=zH Fl;clear Fl;go_wp2_with fail
     refine Ve (Tb) (pa) [9] [9] [0,1,2,3,4,5,6,7,8,9] (by kernel_rfl) (by kernel_rfl) ?_
     refine Xe (pa) ?_;intro Wc ea;refine kd ?_;refine Uc (pa) rfl rfl rfl rfl (fun _ _ _ h=>h) (fun _=>by go_simp <;> rfl) (fun w' hR=>xe.out _) ?_
     refine zPU ?_;refine kd ?_;refine Ti rfl rfl rfl rfl ?_;intro wh Bc;replace ea:=(pa).trans _ _ _ ea Bc;replace kr:=kr.drew.below ea kr.lt;replace ks:=ks.drew.below ea ks.lt;replace da:=ma da.drew ea;clear cs ls ea Bc cl;have c2:=ks.cell;have f2:=ks.frozen;go_simp;refine ⟨fun h=>Bool.noConfusion h,?_⟩
     have hg:wh.grownBy (wh.setCell ⟨g,0,vD⟩ (vd vn na)) (vE g):=Mf (p:=⟨g,0,vD⟩) (Vd wh _) (.inl rfl) _;replace ks:=ks.set_ 0 (vd vn na);simp at ks
     replace kr:=kr.grown hg (fun e=>by have:=db e;omega)
     replace da:=Dd da hg;clear hg c2 f2;generalize wh.setCell _ _=qx at ks kr da |-;refine Dj rfl ?_;have Fl:qx.cell? ⟨bb,bq+i1,vD⟩=vE (vd vn y):=by obtain ⟨b3,q3,e3,-,h3⟩:=Ie (Ww.out.below da) Gk.out;have e4:=db e3;injection e4 with e5 e6;subst e5 e6;rw [h3,BK.out,HY.out]
     have Kp:bb<qx.1.size:=mf _ _ Fl;have cs:=ks.cell;have ls:=ks.lt;go_wp2_with fail
     refine Ve (Tb) (pa) [10] [10] [0,1,2,3,4,5,6,7,8,9,10] (by kernel_rfl) (by kernel_rfl) ?_
     refine Xe (pa) ?_;intro Wc ea;refine kd ?_;refine Uc (pa) rfl rfl rfl rfl (fun _ _ _ h=>h) (fun _=>by go_simp <;> rfl) (fun w' hR=>Qu.out _) ?_
     refine zPU ?_;refine kd ?_;refine Ti rfl rfl rfl rfl ?_;intro wh Bc;replace ea:=(pa).trans _ _ _ ea Bc;replace kr:=kr.drew.below ea kr.lt;replace ks:=ks.drew.below ea ks.lt;replace da:=ma da.drew ea;clear cs ls ea Bc Fl;have c2:=ks.cell;have f2:=ks.frozen;go_simp;refine ⟨fun h=>Bool.noConfusion h,?_⟩
     have hg:wh.grownBy (wh.setCell ⟨g,1,vD⟩ (vd vn nb)) (vE g):=Mf (p:=⟨g,1,vD⟩) (Vd wh _) (.inl rfl) _;replace ks:=ks.set_ 1 (vd vn nb);simp at ks
     replace kr:=kr.grown hg (fun e=>by have:=db e;omega)
     replace da:=Dd da hg;clear hg c2 f2;generalize wh.setCell _ _=Wf1 at ks kr da |-;refine Dj rfl ?_;have cs:=ks.cell;go_wp2_with fail
     refine (HX.out _).mono ?_;rintro e w5 ⟨rfl,Wa⟩;replace kr:=ia kr Wa;replace ks:=ia ks Wa;replace da:=ma da Wa;clear cs Wa;have cs:=ks.cell;have fs:=ks.frozen;go_wp2_with fail
     have hg:=Xo (w:=w5) (g:=g) (vd vn z.a) (vd vn z.b) (vd vn z.c);have kz:=Wo ks (vd vn z.a) (vd vn z.b) (vd vn z.c);replace kr:=kr.grown hg (fun e=>by have:=db e;omega)
     replace da:=Dd da hg;clear hg cs fs ks;generalize ((vF w5 _ _).setCell _ _).setCell _ _=Wz at kz kr da |-
     go_roundw
     case rel=>exact ⟨i+2,z,by omega,by go_num,kr,kz,da,HZ.out⟩
     case measure=>simp [intOf];omega
    ·have Pq:i+1=l.length:=by omega
     have HD:=zH (pR Pq);have g3:¬((i:Int)+1<(l.length:Int)):=by omega
     subst eA;have xl:=zH (show rm p [l.getD i 0] ⟨qa,qb,qc⟩=fin by rw [<- HD.out];exact HI.out)
     have yD:=zH (show l.drop (i+2)=[] from List.drop_of_length_le (by omega))
     clear HD ra Ma hx;generalize l.getD i 0=x at *;have xe:=zH (fun w=>HA.out qa x w)
     obtain ⟨na,mi⟩:=zEX ((qa+x)%p);rw [<- mi] at xe;obtain ⟨z,hz⟩:=zEX (Zp p ⟨na,qb,qc⟩);have HX:=zH (show ∀ w,vB prog 209 #[vd vn p,vf #[vd vn na,vd vn qb,vd vn qc]] w fun e w'=>e=vl (vf #[vd vn z.a,vd vn z.b,vd vn z.c]) /\ vA w.1.size w w' from fun w=>by rw [hz];exact HP.out ⟨na,qb,qc⟩ w)
     have HZ:=zH (show rm p (l.drop (i+2)) z=fin by rw [hz];rw [yD.out,mi];exact xl.out)
     clear hz;clear xl yD Hf Pq mi;have cs:=ks.cell;have ls:=ks.lt;go_wp2_with fail
     refine Ve (Tb) (pa) [9] [9] [0,1,2,3,4,5,6,7,8,9] (by kernel_rfl) (by kernel_rfl) ?_
     refine Xe (pa) ?_;intro Wc ea;refine kd ?_;refine Uc (pa) rfl rfl rfl rfl (fun _ _ _ h=>h) (fun _=>by go_simp <;> rfl) (fun w' hR=>xe.out _) ?_
     refine zPU ?_;refine kd ?_;refine Ti rfl rfl rfl rfl ?_;intro wh Bc;replace ea:=(pa).trans _ _ _ ea Bc;replace kr:=kr.drew.below ea kr.lt;replace ks:=ks.drew.below ea ks.lt;replace da:=ma da.drew ea;clear cs ls ea Bc cl;have c2:=ks.cell;have f2:=ks.frozen;go_simp;refine ⟨fun h=>Bool.noConfusion h,?_⟩
     have hg:wh.grownBy (wh.setCell ⟨g,0,vD⟩ (vd vn na)) (vE g):=Mf (p:=⟨g,0,vD⟩) (Vd wh _) (.inl rfl) _;replace ks:=ks.set_ 0 (vd vn na);simp at ks
     replace kr:=kr.grown hg (fun e=>by have:=db e;omega)
     replace da:=Dd da hg;clear hg c2 f2;generalize wh.setCell _ _=qx at ks kr da |-;refine Dj rfl ?_;have cs:=ks.cell;go_wp2_with fail
     refine (HX.out _).mono ?_;rintro e w5 ⟨rfl,Wa⟩;replace kr:=ia kr Wa;replace ks:=ia ks Wa;replace da:=ma da Wa;clear cs Wa;have cs:=ks.cell;have fs:=ks.frozen;go_wp2_with fail
     have hg:=Xo (w:=w5) (g:=g) (vd vn z.a) (vd vn z.b) (vd vn z.c);have kz:=Wo ks (vd vn z.a) (vd vn z.b) (vd vn z.c);replace kr:=kr.grown hg (fun e=>by have:=db e;omega)
     replace da:=Dd da hg;clear hg cs fs ks;generalize ((vF w5 _ _).setCell _ _).setCell _ _=Wz at kz kr da |-
     go_roundw
     case rel=>exact ⟨i+2,z,by omega,by go_num,kr,kz,da,HZ.out⟩
     case measure=>simp [intOf];omega
   ·by_cases Hf:i+1<l.length
    ·obtain ⟨bb2,bq2,Dx,Kp,Fl⟩:=Ie (Ma.below da) Hf
     have HD:=zH (qR Hf);obtain ⟨i1,IE⟩:=zEX (i+1);have e1:(i:Int)+1=(i1:Int):=by omega
     have e2:vq.wrap ((i:Int)+1)=(i1:Int):=by rw [so];omega
     have e3:vq.wrap (i1:Int)=i1:=by rw [so];omega
     have g4:(0:Int)<=i1:=by omega
     have g3:(i1:Int)<l.length:=by omega
     have Gk:=zH (show i1<l.length by omega)
     have BK:=zH IE;rw [eA] at Dx;have YG:=db Dx
     injection YG with e5 e6
     subst e5 e6;subst eA;clear Dx Kp;have xl:=zH (show rm p (l.getD i 0 :: l.getD (i+1) 0 :: l.drop (i+2)) ⟨qa,qb,qc⟩=fin by rw [<- HD.out];exact HI.out)
     clear HD ra Ma Hf hx IE;obtain ⟨y,hy⟩:=zEX (l.getD (i+1) 0);generalize l.getD i 0=x at *;rw [<- hy] at xl Fl;have HY:=zH hy.symm;clear hy;have xe:=zH (fun w=>HA.out qa x w)
     have Qu:=zH (fun w=>HA.out qb y w)
     obtain ⟨na,mi⟩:=zEX ((qa+x)%p);obtain ⟨nb,Rq⟩:=zEX ((qb+y)%p);rw [<- mi] at xe;rw [<- Rq] at Qu;obtain ⟨z,hz⟩:=zEX (Zp p ⟨na,nb,qc⟩);have HX:=zH (show ∀ w,vB prog 209 #[vd vn p,vf #[vd vn na,vd vn nb,vd vn qc]] w fun e w'=>e=vl (vf #[vd vn z.a,vd vn z.b,vd vn z.c]) /\ vA w.1.size w w' from fun w=>by rw [hz];exact HP.out ⟨na,nb,qc⟩ w)
     have HZ:=zH (show rm p (l.drop (i+2)) z=fin by rw [hz];rw [mi,Rq];exact xl.out)
     clear hz;clear xl mi Rq;have cs:=ks.cell;have ls:=ks.lt;have cl2H:=zH Fl;clear Fl;go_wp2_with fail
     refine Ve (Tb) (pa) [9] [9] [0,1,2,3,4,5,6,7,8,9] (by kernel_rfl) (by kernel_rfl) ?_
     refine Xe (pa) ?_;intro Wc ea;refine kd ?_;refine Uc (pa) rfl rfl rfl rfl (fun _ _ _ h=>h) (fun _=>by go_simp <;> rfl) (fun w' hR=>xe.out _) ?_
     refine zPU ?_;refine kd ?_;refine Ti rfl rfl rfl rfl ?_;intro wh Bc;replace ea:=(pa).trans _ _ _ ea Bc;replace kr:=kr.drew.below ea kr.lt;replace ks:=ks.drew.below ea ks.lt;replace da:=ma da.drew ea;clear cs ls ea Bc cl;have c2:=ks.cell;have f2:=ks.frozen;go_simp;refine ⟨fun h=>Bool.noConfusion h,?_⟩
     have hg:wh.grownBy (wh.setCell ⟨g,0,vD⟩ (vd vn na)) (vE g):=Mf (p:=⟨g,0,vD⟩) (Vd wh _) (.inl rfl) _;replace ks:=ks.set_ 0 (vd vn na);simp at ks
     replace kr:=kr.grown hg (fun e=>by have:=db e;omega)
     replace da:=Dd da hg;clear hg c2 f2;generalize wh.setCell _ _=qx at ks kr da |-;refine Dj rfl ?_;have Fl:qx.cell? ⟨bb,bq+i1,vD⟩=vE (vd vn y):=by obtain ⟨b3,q3,e3,-,h3⟩:=Ie (Ww.out.below da) Gk.out;have e4:=db e3;injection e4 with e5 e6;subst e5 e6;rw [h3,BK.out,HY.out]
     have Kp:bb<qx.1.size:=mf _ _ Fl;have cs:=ks.cell;have ls:=ks.lt;go_wp2_with fail
     refine Ve (Tb) (pa) [10] [10] [0,1,2,3,4,5,6,7,8,9,10] (by kernel_rfl) (by kernel_rfl) ?_
     refine Xe (pa) ?_;intro Wc ea;refine kd ?_;refine Uc (pa) rfl rfl rfl rfl (fun _ _ _ h=>h) (fun _=>by go_simp <;> rfl) (fun w' hR=>Qu.out _) ?_
     refine zPU ?_;refine kd ?_;refine Ti rfl rfl rfl rfl ?_;intro wh Bc;replace ea:=(pa).trans _ _ _ ea Bc;replace kr:=kr.drew.below ea kr.lt;replace ks:=ks.drew.below ea ks.lt;replace da:=ma da.drew ea;clear cs ls ea Bc Fl;have c2:=ks.cell;have f2:=ks.frozen;go_simp;refine ⟨fun h=>Bool.noConfusion h,?_⟩
     have hg:wh.grownBy (wh.setCell ⟨g,1,vD⟩ (vd vn nb)) (vE g):=Mf (p:=⟨g,1,vD⟩) (Vd wh _) (.inl rfl) _;replace ks:=ks.set_ 1 (vd vn nb);simp at ks
     replace kr:=kr.grown hg (fun e=>by have:=db e;omega)
     replace da:=Dd da hg;clear hg c2 f2;generalize wh.setCell _ _=Wf1 at ks kr da |-;refine Dj rfl ?_;have cs:=ks.cell;go_wp2_with fail
     refine (HX.out _).mono ?_;rintro e w5 ⟨rfl,Wa⟩;replace kr:=ia kr Wa;replace ks:=ia ks Wa;replace da:=ma da Wa;clear cs Wa;have cs:=ks.cell;have fs:=ks.frozen;go_wp2_with fail
     have hg:=Xo (w:=w5) (g:=g) (vd vn z.a) (vd vn z.b) (vd vn z.c);have kz:=Wo ks (vd vn z.a) (vd vn z.b) (vd vn z.c);replace kr:=kr.grown hg (fun e=>by have:=db e;omega)
     replace da:=Dd da hg;clear hg cs fs ks;generalize ((vF w5 _ _).setCell _ _).setCell _ _=Wz at kz kr da |-
     go_roundw
     case rel=>exact ⟨i+2,z,by omega,by go_num,kr,kz,da,HZ.out⟩
     case measure=>simp [intOf];omega
    ·have Pq:i+1=l.length:=by omega
     have HD:=zH (pR Pq);have g3:¬((i:Int)+1<(l.length:Int)):=by omega
     subst eA;have xl:=zH (show rm p [l.getD i 0] ⟨qa,qb,qc⟩=fin by rw [<- HD.out];exact HI.out)
     have yD:=zH (show l.drop (i+2)=[] from List.drop_of_length_le (by omega))
     clear HD ra Ma hx;generalize l.getD i 0=x at *;have xe:=zH (fun w=>HA.out qa x w)
     obtain ⟨na,mi⟩:=zEX ((qa+x)%p);rw [<- mi] at xe;obtain ⟨z,hz⟩:=zEX (Zp p ⟨na,qb,qc⟩);have HX:=zH (show ∀ w,vB prog 209 #[vd vn p,vf #[vd vn na,vd vn qb,vd vn qc]] w fun e w'=>e=vl (vf #[vd vn z.a,vd vn z.b,vd vn z.c]) /\ vA w.1.size w w' from fun w=>by rw [hz];exact HP.out ⟨na,qb,qc⟩ w)
     have HZ:=zH (show rm p (l.drop (i+2)) z=fin by rw [hz];rw [yD.out,mi];exact xl.out)
     clear hz;clear xl yD Hf Pq mi;have cs:=ks.cell;have ls:=ks.lt;go_wp2_with fail
     refine Ve (Tb) (pa) [9] [9] [0,1,2,3,4,5,6,7,8,9] (by kernel_rfl) (by kernel_rfl) ?_
     refine Xe (pa) ?_;intro Wc ea;refine kd ?_;refine Uc (pa) rfl rfl rfl rfl (fun _ _ _ h=>h) (fun _=>by go_simp <;> rfl) (fun w' hR=>xe.out _) ?_
     refine zPU ?_;refine kd ?_;refine Ti rfl rfl rfl rfl ?_;intro wh Bc;replace ea:=(pa).trans _ _ _ ea Bc;replace kr:=kr.drew.below ea kr.lt;replace ks:=ks.drew.below ea ks.lt;replace da:=ma da.drew ea;clear cs ls ea Bc cl;have c2:=ks.cell;have f2:=ks.frozen;go_simp;refine ⟨fun h=>Bool.noConfusion h,?_⟩
     have hg:wh.grownBy (wh.setCell ⟨g,0,vD⟩ (vd vn na)) (vE g):=Mf (p:=⟨g,0,vD⟩) (Vd wh _) (.inl rfl) _;replace ks:=ks.set_ 0 (vd vn na);simp at ks
     replace kr:=kr.grown hg (fun e=>by have:=db e;omega)
     replace da:=Dd da hg;clear hg c2 f2;generalize wh.setCell _ _=qx at ks kr da |-;refine Dj rfl ?_;have cs:=ks.cell;go_wp2_with fail
     refine (HX.out _).mono ?_;rintro e w5 ⟨rfl,Wa⟩;replace kr:=ia kr Wa;replace ks:=ia ks Wa;replace da:=ma da Wa;clear cs Wa;have cs:=ks.cell;have fs:=ks.frozen;go_wp2_with fail
     have hg:=Xo (w:=w5) (g:=g) (vd vn z.a) (vd vn z.b) (vd vn z.c);have kz:=Wo ks (vd vn z.a) (vd vn z.b) (vd vn z.c);replace kr:=kr.grown hg (fun e=>by have:=db e;omega)
     replace da:=Dd da hg;clear hg cs fs ks;generalize ((vF w5 _ _).setCell _ _).setCell _ _=Wz at kz kr da |-
     go_roundw
     case rel=>exact ⟨i+2,z,by omega,by go_num,kr,kz,da,HZ.out⟩
     case measure=>simp [intOf];omega
  ·have HQ:=zH (show (⟨qa,qb,qc⟩:St)=fin by have:=HI.out;rw [List.drop_of_length_le (by omega)] at this;exact this)
   have g2:¬((i:Int)<l.length):=by omega
   have gi:((i:Int) == 0)=false:=by rw [pd];omega
   have cs:=ks.cell;have cr:=kr.cell;have fr:=kr.frozen;clear Ma ra;go_wp2_with fail
   have hg:=Xo (w:=wr) (g:=w.1.size) (vd vn qa) (vd vn qb) (vd vn qc);have kz:=Wo kr (vd vn qa) (vd vn qb) (vd vn qc);clear cs cr fr kr ks;generalize ((vF wr _ _).setCell _ _).setCell _ _=Wz at hg kz |-;have cz:=kz.cell;exact ed (v:=vf #[vd vn qa,vd vn qb,vd vn qc]) (by simp [results,results208,go_sem,cz]) rfl ⟨by rw [<- HQ.out];rfl,da.trans (Ok hg da.size zR)⟩
def ur (p:Nat) (s:St):Nat -> St
 | 0=>s
 | m+1=>Zp p (ur p s m)
def Bh (p:Nat) (s:St) (k:Nat):Nat:=(ur p s (k / 2)).at_ (k%2)
theorem iK (f:Nat -> Nat) (n k:Nat):Oa n (df (fun i=>if i<k then f i else 0) k (f k))=Oa n fun i=>if i<k+1 then f i else 0:=by
 refine Qk fun i _=>?_
 simp only [df];by_cases h:i=k
 ·subst h;rw [Qa rfl,Qa (by omega)]
 ·rw [La h]
  by_cases h2:i<k
  ·rw [Qa h2,Qa (by omega)]
  ·rw [La h2,La (by omega)]
theorem zD3 (p label:Nat) (A:Option vy) (n c m:Nat) (l:List Nat) (w:vw) (hp:Ib p=true) (hl:RWd w [ve A n c] l) (Ta:0<l.length) (hlen:l.length <= 1000000) (hm:m <= 65536) :
  vB prog 269 #[vd vn p,vd vn label,ve A n c,vd vq m] w fun e w'=>∃ g,e=vl (ve (vE ⟨g,0,vD⟩) m m) /\ w.1.size <= g /\ Blk w' g 22 (Oa m (Bh p (um p label l))) /\ vA w.1.size w w':=by
 have HV:=zH (fun w=>Eo p w hp)
 have My:=zH (fun w' (hb:vA w.1.size w w')=>Z2 p label A n c l w' hp (Bb hb hl) Ta hlen)
 have HP:=zH (fun s w=>W3 p s w hp)
 have ki:=fun w=>Yv m (by omega) w
 have g0:¬((m:Int)<0):=by omega
 have g1:(m:Int) <= 65536:=by omega
 clear hl Ta hlen hp;generalize um p label l=s at *;unfold fv at *;go_enter func269,ntmps269
 go_wp2_with fail
 refine (HV.out _).mono ?_;rintro e w1 ⟨rfl,Ca⟩;go_wp2_with fail
 refine (My.out _ Ca).mono ?_;rintro e w2 ⟨rfl,Aa⟩;have da:=ma Ca Aa;have ev:s.val=vf #[vd vn s.a,vd vn s.b,vd vn s.c]:=rfl;rw [ev];obtain ⟨mI,kg,tk,tb⟩:=Ih w2 298 22 #[vd vn s.a,vd vn s.b,vd vn s.c] (Oa m fun _=>0)
 have re:=da.size;replace da:=ma da tk;clear ev Ca Aa tk;generalize hz:Oa m (fun _=>0)=zc at *
 go_upto_region 5 with fail
 generalize (w2.alloc _).alloc _=w3 at mI kg da tb |-;generalize w2.1.size=gs at *;clear tb;have ks:Blk w3 gs 298 (ur p s ((0-1) / 2)).cs:=mI;rw [<- hz,show Oa m (fun _=>0)=Oa m (fun k=>if k<0 then Bh p s k else 0) from Qk fun i _=>by rw [La (by omega)]] at kg
 clear hz mI;go_wp2_with fail
 go_loopw [32] (fun y wr=>∃ i:Nat,i <= m /\ y=vd vq i /\ Blk wr gs 298 (ur p s ((i-1) / 2)).cs /\ Blk wr (gs+1) 22 (Oa m fun k=>if k<i then Bh p s k else 0) /\ vA w.1.size w wr) (fun y _=>m-(intOf y).toNat)
 case atStart=>exact ⟨0,Lb _,rfl,ks,kg,da⟩
 case round =>
  clear ks kg da;obtain ⟨i,hi,rfl,ks,kg,da⟩:=hrel;by_cases ra:i<m
  ·have g2:(i:Int)<m:=by omega
   have g3:(0:Int)<=i:=by omega
   obtain ⟨sv,UH⟩:=zEX (Bh p s i);obtain ⟨j,hj⟩:=zEX (i%2);have Sk:j<3:=by omega
   have ej:(i:Int)%2=(j:Int):=by omega
   have ej2:(i:Int).tmod 2=(j:Int):=by rw [Int.tmod_eq_emod_of_nonneg (by omega)];exact ej
   have HSQ:=zH (show (ur p s (i / 2)).at_ j=sv by rw [hj,UH];rfl)
   have ZA:=zH UH.symm;clear UH;rcases (show i=0 \/ i%2=1 \/ (0<i /\ i%2=0) by omega) with h0 | h1 | ⟨h2,h3⟩
   ·have d1:¬((0:Int)<i):=by omega
    have d2:decide ((0:Int)<i)=false:=xb d1;rw [show (i-1) / 2=i / 2 by omega] at ks
    have H0:=zH h0;clear h0 hj;have cj:=ks.cell j;rw [St.cs_at _ Sk] at cj;have ci:=kg.cell i;rw [Ff _ ra] at ci;rw [HSQ.out] at cj;have fi:=kg.frozen i;generalize (if i<i then Bh p s i else 0)=old at ci
    go_wp2_with fail
    have hg:wr.grownBy (wr.setCell ⟨gs+1,i,vD⟩ (vd vn sv)) (vE (gs+1)):=Mf (p:=⟨gs+1,i,vD⟩) (Vd wr _) (.inl rfl) _;replace kg:=kg.set_ i (vd vn sv);have HN:(Oa m fun k=>if k<i then Bh p s k else 0).setIfInBounds i (vd vn sv)=Oa m (fun k=>if k<i+1 then Bh p s k else 0):=by rw [Hq,<- ZA.out,iK]
    rw [HN] at kg;replace ks:=ks.grown hg (fun e=>by have:=db e;omega)
    replace da:=Dd da hg;clear hg fi ci cj
    go_roundw
    case rel=>exact ⟨i+1,by omega,by go_num,by rw [show (i+1-1) / 2=i / 2 by omega];exact ks,kg,da⟩
    case measure=>simp [intOf];omega
   ·have d1:(0:Int)<i:=by omega
    have d3:((j:Int) == 0)=false:=by rw [pd];omega
    rw [show (i-1) / 2=i / 2 by omega] at ks
    clear h1 hj;have cj:=ks.cell j;rw [St.cs_at _ Sk] at cj;have ci:=kg.cell i;rw [Ff _ ra] at ci;rw [HSQ.out] at cj;have fi:=kg.frozen i;generalize (if i<i then Bh p s i else 0)=old at ci
    go_wp2_with fail
    have hg:wr.grownBy (wr.setCell ⟨gs+1,i,vD⟩ (vd vn sv)) (vE (gs+1)):=Mf (p:=⟨gs+1,i,vD⟩) (Vd wr _) (.inl rfl) _;replace kg:=kg.set_ i (vd vn sv);have HN:(Oa m fun k=>if k<i then Bh p s k else 0).setIfInBounds i (vd vn sv)=Oa m (fun k=>if k<i+1 then Bh p s k else 0):=by rw [Hq,<- ZA.out,iK]
    rw [HN] at kg;replace ks:=ks.grown hg (fun e=>by have:=db e;omega)
    replace da:=Dd da hg;clear hg fi ci cj
    go_roundw
    case rel=>exact ⟨i+1,by omega,by go_num,by rw [show (i+1-1) / 2=i / 2 by omega];exact ks,kg,da⟩
    case measure=>simp [intOf];omega
   ·have d1:(0:Int)<i:=by omega
    have d3:((j:Int) == 0)=true:=by rw [Hh];omega
    obtain ⟨q,hq⟩:=zEX (ur p s ((i-1) / 2));rw [<- hq] at ks;obtain ⟨z,hz⟩:=zEX (Zp p q);have HZ:=zH (show ur p s (i / 2)=z by rw [show i / 2=(i-1) / 2+1 by omega,ur,<- hq,hz])
    have HX:=zH (show ∀ w,vB prog 300 #[vd vn p,vf #[vd vn q.a,vd vn q.b,vd vn q.c]] w fun e w'=>e=vl (vf #[vd vn z.a,vd vn z.b,vd vn z.c]) /\ vA w.1.size w w' from fun w=>by rw [hz];exact HP.out q w)
    have Qi:Blk wr gs 298 #[vd vn q.a,vd vn q.b,vd vn q.c]:=ks;clear h2 h3 hj hq hz ks;have cs:=Qi.cell;go_wp2_with fail
    refine (HX.out _).mono ?_;rintro e w5 ⟨rfl,Wa⟩;replace Qi:=ia Qi Wa;replace kg:=ia kg Wa;replace da:=ma da Wa;clear cs Wa;have cs:=Qi.cell;have fs:=Qi.frozen;go_upto_region 10 with fail
    have hg:=Xo (w:=w5) (g:=gs) (vd vn z.a) (vd vn z.b) (vd vn z.c);have ks:Blk _ gs 298 z.cs:=Wo Qi (vd vn z.a) (vd vn z.b) (vd vn z.c);replace kg:=kg.grown hg (fun e=>by have:=db e;omega)
    replace da:=Dd da hg;clear hg cs fs Qi;generalize ((vF w5 _ _).setCell _ _).setCell _ _=W8 at ks kg da |-;rw [<- HZ.out] at ks;have cj:=ks.cell j;rw [St.cs_at _ Sk] at cj;have ci:=kg.cell i;rw [Ff _ ra] at ci;rw [HSQ.out] at cj;have fi:=kg.frozen i;generalize (if i<i then Bh p s i else 0)=old at ci
    go_wp2_with fail
    have hg:W8.grownBy (W8.setCell ⟨gs+1,i,vD⟩ (vd vn sv)) (vE (gs+1)):=Mf (p:=⟨gs+1,i,vD⟩) (Vd W8 _) (.inl rfl) _;replace kg:=kg.set_ i (vd vn sv);have HN:(Oa m fun k=>if k<i then Bh p s k else 0).setIfInBounds i (vd vn sv)=Oa m (fun k=>if k<i+1 then Bh p s k else 0):=by rw [Hq,<- ZA.out,iK]
    rw [HN] at kg;replace ks:=ks.grown hg (fun e=>by have:=db e;omega)
    replace da:=Dd da hg;clear hg fi ci cj
    go_roundw
    case rel=>exact ⟨i+1,by omega,by go_num,by rw [show (i+1-1) / 2=i / 2 by omega];exact ks,kg,da⟩
    case measure=>simp [intOf];omega
  ·obtain rfl:i=m:=by omega
   rw [show Oa i (fun k=>if k<i then Bh p s k else 0)=Oa i (Bh p s) from Qk fun k hk=>by rw [Qa hk]] at kg
   go_wp2;go_ret
   exact ⟨gs+1,rfl,by omega,kg,da⟩
theorem ti {w w':vw} {base B:Nat} {e:vz} {size:Nat} {v:vx} {n:Nat} {xs:List vx} (h:w.ownsRow base e size v n xs) (hg:w.grownBy w' (vE B)) (hB:B<base):w'.ownsRow base e size v n xs:=by
 obtain ⟨h1,h2⟩:=h;refine ⟨h1,?_⟩;rcases h2 with h2 | ⟨g,cap,cur,hv,Il,hh,r⟩
 ·exact Or.inl h2
 ·exact Or.inr ⟨g,cap,cur,hv,Il,by rw [hg.block g (Pu.1 hh).1 (fun e=>by have:=db e;omega)];exact hh,r⟩
theorem wU (f:Nat -> Nat) (i:Nat):(List.range i).map f++[f i]=(List.range (i+1)).map f:=by simp [List.range_succ]
theorem zE4 (p label:Nat) (A:Option vy) (n c m:Nat) (l:List Nat) (w:vw) (hp:Ib p=true) (hl:RWd w [ve A n c] l) (Ta:0<l.length) (hlen:l.length <= 1000000) (hm:m <= 65536) :
  vB prog 114 #[vd vn p,vd vn label,ve A n c,vd vq m] w fun e w'=>∃ v,e=vl v /\ w'.ownsRow w.1.size 22 1 v m (Ia ((List.range m).map (Bh p (um p label l)))) /\ vA w.1.size w w':=by
 obtain ⟨Ed,uc⟩:=Nb hp;have HV:=zH (fun w=>by have:=Ju p w uc;rw [hp] at this;exact this)
 have My:=zH (fun w' (hb:vA w.1.size w w')=>zEO p label A n c l w' hp (Bb hb hl) Ta hlen)
 have HP:=zH (fun s w=>J5 p s w hp)
 have g0:¬((m:Int)<0):=by omega
 have g1:(m:Int) <= 65536:=by omega
 clear hl Ta hlen hp Ed uc;generalize um p label l=s at *;go_enter func114,ntmps114
 go_wp2_with fail
 refine (HV.out _).mono ?_;rintro e w1 ⟨rfl,Ca⟩;go_wp2_with fail
 refine (My.out _ Ca).mono ?_;rintro e w2 ⟨rfl,Aa⟩;have da:=ma Ca Aa;have ev:s.val=vf #[vd vn s.a,vd vn s.b,vd vn s.c]:=rfl;rw [ev];have ja:=(za w2.1.size w2).alloc zR (.cells #[vd vn s.a,vd vn s.b,vd vn s.c] 298);have mI:=Blk.new w2 298 #[vd vn s.a,vd vn s.b,vd vn s.c];have re:=da.size;replace da:=ma da ja;clear ev Ca Aa ja;go_upto_region 4 with fail
 generalize w2.alloc _=w3 at mI da |-;generalize w2.1.size=gs at *;have ks:Blk w3 gs 298 (ur p s (0 / 2)).cs:=mI;clear mI;have hgs:gs<w3.1.size:=ks.lt;go_wp2_with fail
 go_loopw [10,11] (fun v y wr=>∃ i:Nat,i <= m /\ y=vd vq i /\ Blk wr gs 298 (ur p s (i / 2)).cs /\ wr.ownsRow w3.1.size 22 1 v i (Ia ((List.range i).map (Bh p s))) /\ vA w.1.size w wr /\ w3.1.size <= wr.1.size) (fun _ y _=>m-(intOf y).toNat)
 case atStart=>exact ⟨0,Lb _,rfl,ks,⟨rfl, .inl ⟨rfl,rfl⟩⟩,da,zR⟩
 case round =>
  clear ks da;obtain ⟨i,hi,rfl,ks,xa,da,tb⟩:=hrel;by_cases ra:i<m
  ·have g2:(i:Int)<m:=by omega
   have g3:(0:Int)<=i:=by omega
   obtain ⟨sv,UH⟩:=zEX (Bh p s i);obtain ⟨j,hj⟩:=zEX (i%2);have Sk:j<3:=by omega
   have ej:(i:Int)%2=(j:Int):=by omega
   have ej2:(i:Int).tmod 2=(j:Int):=by rw [Int.tmod_eq_emod_of_nonneg (by omega)];exact ej
   have HSQ:=zH (show (ur p s (i / 2)).at_ j=sv by rw [hj,UH];rfl)
   have Xy:=zH (show (List.range i).map (Bh p s)++[sv]=(List.range (i+1)).map (Bh p s) by rw [UH];exact wU _ _)
   have cj:=ks.cell j;rw [St.cs_at _ Sk,HSQ.out] at cj;obtain ⟨q,hq⟩:=zEX (ur p s (i / 2));rw [<- hq] at ks;have HQ:=zH hq.symm;have HJ:=zH hj;clear UH hq hj;go_wp2_with (at_builtin;refine oh rfl _ _ rfl Hp rfl (xa.alloc _) rfl (Ku _ _ _) (Ck [sv]) (by omega) (by simp;omega) ?_)
   intro v' wn Kb Va Zb;have ja:=(za wr.1.size wr).alloc zR (.cells #[vd vn sv] 22);have hB:=Sl (xa.alloc _) Va (by simp;omega)
   have hks:=(ia ks ja).below hB hgs;replace da:=(zx da ja da.size).trans (hB.mono (by have:=da.size;omega))
   have hszn:w3.1.size <= wn.1.size:=by have:=Va.size;simp at this;omega
   replace Kb:wn.ownsRow w3.1.size 22 1 v' (i+1) (Ia ((List.range (i+1)).map (Bh p s))):=dA (a:=(List.range i).map (Bh p s)) (b:=[sv]) Kb Xy.out;clear xa Va Zb ja hB ks cj tb;rcases (show j=0 \/ j=1 by have:=HJ.out;omega) with h0 | h1
   ·have d3:((j:Int) == 1)=false:=by rw [pd];omega
    have HH:=zH (show i / 2=(i+1) / 2 by have:=HJ.out;omega)
    rw [<- HQ.out,HH.out] at hks;clear h0;go_wp2
    go_roundw
    case rel=>exact ⟨i+1,by omega,by go_num,hks,Kb,da,hszn⟩
    case measure=>simp [intOf];omega
   ·have d3:((j:Int) == 1)=true:=by rw [Hh];omega
    have HH:=zH (show (i+1) / 2=i / 2+1 by have:=HJ.out;omega)
    obtain ⟨z,hz⟩:=zEX (Zp p q);have HZ:=zH (show ur p s ((i+1) / 2)=z by rw [HH.out,ur,HQ.out,hz])
    have HX:=zH (show ∀ w,vB prog 209 #[vd vn p,vf #[vd vn q.a,vd vn q.b,vd vn q.c]] w fun e w'=>e=vl (vf #[vd vn z.a,vd vn z.b,vd vn z.c]) /\ vA w.1.size w w' from fun w=>by rw [hz];exact HP.out q w)
    have Qi:Blk wn gs 298 #[vd vn q.a,vd vn q.b,vd vn q.c]:=hks;clear h1 hz hks;have cs:=Qi.cell;go_wp2_with fail
    refine (HX.out _).mono ?_;rintro e w5 ⟨rfl,Wa⟩;replace Qi:=ia Qi Wa;replace Kb:=Xb Kb Wa zR;replace da:=ma da Wa;have hs5:=Wa.size;clear cs Wa;have cs:=Qi.cell;have fs:=Qi.frozen;go_wp2_with fail
    have hg:=Xo (w:=w5) (g:=gs) (vd vn z.a) (vd vn z.b) (vd vn z.c);have ks:Blk _ gs 298 z.cs:=Wo Qi (vd vn z.a) (vd vn z.b) (vd vn z.c);replace Kb:=ti Kb hg hgs;replace da:=Dd da hg;have hs6:=hg.size;clear hg cs fs Qi
    go_roundw
    case rel=>exact ⟨i+1,by omega,by go_num,by rw [HZ.out];exact ks,Kb,da,by omega⟩
    case measure=>simp [intOf];omega
  ·obtain rfl:i=m:=by omega
   go_wp2;go_ret
   exact ⟨_,rfl,Xk xa (by omega),da⟩
def Za:Nat:=18446744069414584321
theorem VL:Ib Za=true:=by decide
def XG (x:Nat) (r:List Nat) (k:Nat):Nat:=Bh Za (um Za 22 (x%Za :: r)) k
theorem K3 (x:Nat) (r:List Nat) (m g:Nat) (w:vw) (kg:Blk w g 22 (Ia (x :: r)).toArray) (hx:∀ y∈x :: r,y<18446744073709551616) (hr:r.length <= 1000) (hm:m <= 65536) :
  vB prog 199 #[vd vq m,ve (vE ⟨g,0,vD⟩) (r.length+1) (r.length+1)] w fun e w'=>∃ g',e=vl (ve (vE ⟨g',0,vD⟩) m m) /\ w.1.size <= g' /\ Blk w' g' 22 (Oa m (XG x r)) /\ w.grownBy w' (vE g):=by
 have HR:=zH (fun w=>dH Za x w VL)
 have hq:x%Za<18446744073709551616:=Nat.lt_of_le_of_lt (Nat.mod_le _ _) (hx x (by simp))
 obtain ⟨y,hy⟩:=zEX (x%Za);have HD:=zH (show XG x r=Bh Za (um Za 22 (y :: r)) by rw [hy];rfl)
 rw [<- hy] at HR hq;rw [HD.out];have HS:=zH (fun w (k:Blk w g 22 (Ia (y :: r)).toArray)=>zD3 Za 22 (vE ⟨g,0,vD⟩) (y :: r).length (y :: r).length m (y :: r) w VL (NC k (fun z hz=>by
  rcases Xg.1 hz with rfl | h
  ·exact hq
  ·exact hx z (by simp [h])) (by simp [maxLen];omega)) (by simp) (by simp;omega) hm)
 have Wg:=zH (show (Ia (x :: r)).toArray.setIfInBounds 0 (vd vn y)=(Ia (y :: r)).toArray by simp [Ia])
 have xg:w.cell? ⟨g,0,vD⟩=vE (vd vn x):=by rw [kg.cell];simp [Ia]
 have n1:(0:Int)<((r.length+1:Nat):Int):=by omega
 have n2:0<r.length+1:=by omega
 simp only [jf] at HS;clear hy hq hx HD;generalize r.length+1=n at *;generalize Bh Za (um Za 22 (y :: r))=fs at *;unfold Za fv at *;have lg:=kg.lt;go_enter func199,ntmps199
 go_wp2_with fail
 refine (HR.out _).mono ?_;rintro e w1 ⟨rfl,Ca⟩;replace kg:=kg.below Ca lg;have Ad:w1.cell? ⟨g,0,vD⟩=vE (vd vn x):=(Below.cell Ca lg).trans xg;have f1:=kg.frozen 0;clear xg;go_upto_region 2 with fail
 have hg:w1.grownBy (w1.setCell ⟨g,0,vD⟩ (vd vn y)) (vE g):=Mf (p:=⟨g,0,vD⟩) (Vd w1 _) (.inl rfl) _;replace kg:=kg.set_ 0 (vd vn y);rw [Wg.out] at kg;have Pa:=Iq (Lf (Vd w (vE g)) Ca zR) hg (fun _ e=>.inl e)
 have yd:=Pa.size;clear hg f1 Ad Ca;generalize w1.setCell _ _=w2 at kg Pa yd |-;go_wp2_with fail
 refine (HS.out _ kg).mono ?_;rintro e w3 ⟨g',rfl,Dm,Qe,Ua⟩;go_wp2;go_ret
 exact ⟨g',rfl,by omega,Qe,Lf Pa Ua yd⟩
def wN (p x:Nat) (r:List Nat) (k:Nat):Nat:=XG x r k%p
def St.lt (p:Nat) (s:St):Prop:=s.a<p /\ s.b<p /\ s.c<p
theorem mU {p:Nat} (hp:0<p) (s:St):(Zp p s).lt p:=⟨ic _ hp,ic _ hp,ic _ hp⟩
theorem JQ {p:Nat} (hp:0<p):∀ (l:List Nat) (s:St),s.lt p -> (rm p l s).lt p
 | [],_,h=>h
 | [_],_,_=>mU hp _
 | _ :: _ :: r,_,_=>JQ hp r _ (mU hp _)
theorem zEk {p:Nat} (hp:0<p) (s:St) (h:s.lt p):∀ m,(ur p s m).lt p
 | 0=>h
 | _+1=>mU hp _
theorem Y6 (p label:Nat) (l:List Nat) (k:Nat) (hp:0<p):Bh p (um p label l) k<p:=by
 have h:=zEk hp _ (JQ hp l ⟨0,0,(label*65536%p+l.length)%p⟩ ⟨hp,hp,ic _ hp⟩) (k / 2);show St.at_ _ (k%2)<p
 unfold St.at_;split
 ·exact h.1
 ·split
  ·exact h.2.1
  ·exact h.2.2
theorem ZW (L:Ra) (w:vw) (hL:Rb L) :
  vB prog 118 #[vf (Db L)] w fun e w'=>e=vl (vf #[vd vq L.k,vd vq ((L.k+L.block-2:Nat):Int),vd vq ((L.block+2*L.queries-1:Nat):Int)]) /\ vA w.1.size w w':=by
 have h1:=hL.b1;have h2:=hL.b2;have h3:=hL.q1;have h4:=hL.q2;have h5:=hL.k;obtain ⟨x,hx⟩:=zEX (L.k+L.block-2);obtain ⟨y,hy⟩:=zEX (L.block+2*L.queries-1);rw [<- hx,<- hy];have e1:vq.wrap ((L.k:Int)+L.block)=(L.k:Int)+L.block:=Vi _ (by omega) (by omega)
 have e2:vq.wrap ((L.k:Int)+L.block-2)=(x:Int):=by rw [Vi _ (by omega) (by omega)];omega
 have e3:vq.wrap (2*(L.queries:Int))=2*(L.queries:Int):=Vi _ (by omega) (by omega)
 have e4:vq.wrap ((L.block:Int)+2*(L.queries:Int))=(L.block:Int)+2*(L.queries:Int):=Vi _ (by omega) (by omega)
 have e5:vq.wrap ((L.block:Int)+2*(L.queries:Int)-1)=(y:Int):=by rw [Vi _ (by omega) (by omega)];omega
 clear h1 h2 h3 h4 h5 hx hy hL;unfold Db at *;go_enter func118,ntmps118
 go_wp2_with fail
 exact ed (v:=vf #[vd vq L.k,vd vq x,vd vq y]) (by simp [results,results118,go_sem]) rfl ⟨rfl,((za _ w).alloc zR _).alloc (by simp) _⟩
theorem zCK (L:Ra) (x:Nat) (r:List Nat) (m g:Nat) (w:vw) (hp:Ib L.p=true) (kg:Blk w g 22 (Ia (x :: r)).toArray) (hx:∀ y∈x :: r,y<18446744073709551616) (hr:r.length <= 1000) (hm:m <= 65536) :
  vB prog 198 #[vf (Db L),vd vq m,ve (vE ⟨g,0,vD⟩) (r.length+1) (r.length+1)] w fun e w'=>∃ g',e=vl (ve (vE ⟨g',0,vD⟩) m m) /\ w.1.size <= g' /\ Blk w' g' 22 (Oa m (wN L.p x r)) /\ w.grownBy w' (vE g):=by
 have HD:=zH (fun w k=>K3 x r m g w k hx hr hm)
 have HR:=zH (fun n w=>dH L.p n w hp)
 have lg:=kg.lt;obtain ⟨kl,kf,tk,tb⟩:=Ih w 101 224 (Db L) #[vd vn L.p];have bA:=kg.below tk lg;have HF:=zH (fun k hk=>Ff (n:=m) (f:=XG x r) (k:=k) hk)
 have hfp:wN L.p x r=fun k=>XG x r k%L.p:=rfl
 rw [hfp];clear hx hr hfp;generalize r.length+1=n at *;generalize XG x r=fs at *;generalize (Ia (x :: r)).toArray=us at *;unfold Db fv at *;generalize L.p=p at *;go_enter func198,ntmps198
 go_wp2_with fail
 generalize (w.alloc _).alloc _=w2 at kf bA tk tb |-;clear kl kg;refine (HD.out _ bA).mono ?_;rintro e w3 ⟨g',rfl,Dm,Qe,Pa⟩;replace kf:=kf.grown Pa (fun e=>by have:=db e;omega)
 replace Pa:w.grownBy w3 (vE g):=Iq (Lf (Vd w (vE g)) tk zR) Pa (fun _ e=>.inl e)
 rw [show Oa m fs=Oa m (fun k=>if k<0 then fs k%p else fs k) from Qk fun i _=>by rw [La (by omega)]] at Qe
 clear bA;go_wp2_with fail
 go_loopw [19] (fun y wr=>∃ i:Nat,i <= m /\ y=vd vq i /\ Blk wr (w.1.size+1) 224 #[vd vn p] /\ Blk wr g' 22 (Oa m fun k=>if k<i then fs k%p else fs k) /\ w.grownBy wr (vE g)) (fun y _=>m-(intOf y).toNat)
 case atStart=>exact ⟨0,Lb _,rfl,kf,Qe,Pa⟩
 case round =>
  clear kf Qe Pa;obtain ⟨i,hi,rfl,kf,Qe,Pa⟩:=hrel;by_cases ra:i<m
  ·have g2:(i:Int)<m:=by omega
   have g3:(0:Int)<=i:=by omega
   have ci:=Qe.cell i;rw [Ff _ ra,La (Nat.lt_irrefl i)] at ci;have cf:=kf.cell;obtain ⟨fi,Vx⟩:=zEX (fs i);obtain ⟨z,hz⟩:=zEX (fi%p);have HZ:=zH (show fs i%p=z by rw [<- Vx,hz])
   have HX:=zH (fun w=>by have:=HR.out fi w;rw [<- hz] at this;exact this)
   rw [<- Vx] at ci;clear Vx hz;go_wp2_with fail
   refine (HX.out _).mono ?_;rintro e w5 ⟨rfl,Wa⟩;replace kf:=ia kf Wa;replace Qe:=Qe.below Wa Qe.lt;have AL:w.grownBy w5 (vE g):=Lf Pa Wa Pa.size;clear ci cf Pa Wa;have fi2:=Qe.frozen i;have ci2:=Qe.cell i;rw [Ff _ ra] at ci2;generalize (if i<i then fs i%p else fs i)=old at ci2
   go_wp2_with fail
   have hg:w5.grownBy (w5.setCell ⟨g',i,vD⟩ (vd vn z)) (vE g'):=Mf (p:=⟨g',i,vD⟩) (Vd w5 _) (.inl rfl) _;replace kf:=kf.grown hg (fun e=>by have:=db e;omega)
   replace Qe:=Qe.set_ i (vd vn z);have HN:(Oa m fun k=>if k<i then fs k%p else fs k).setIfInBounds i (vd vn z)=Oa m (fun k=>if k<i+1 then fs k%p else fs k):=by
    rw [Hq];refine Qk fun k _=>?_
    simp only [df];by_cases h:k=i
    ·subst h;rw [Qa rfl,Qa (by omega),HZ.out]
    ·rw [La h]
     by_cases h2:k<i
     ·rw [Qa h2,Qa (by omega)]
     ·rw [La h2,La (by omega)]
   rw [HN] at Qe;have xJ:=Iq AL hg (fun b e=>by have:=db e;subst this;exact .inr (by omega))
   clear AL hg fi2 ci2
   go_roundw
   case rel=>exact ⟨i+1,by omega,by go_num,kf,Qe,xJ⟩
   case measure=>simp [intOf];omega
  ·obtain rfl:i=m:=by omega
   rw [show Oa i (fun k=>if k<i then fs k%p else fs k)=Oa i (fun k=>fs k%p) from Qk fun k hk=>by rw [Qa hk]] at Qe
   go_wp2;go_ret
   exact ⟨g',rfl,by omega,Qe,Pa⟩
theorem zFp (p:Nat) (A:Option vy) (n c m:Nat) (l:List Nat) (w:vw) (hp:0<p) (uc:p<18446744073709551616) (hl:RWd w [ve A n c] l) (Ta:0<l.length) (hlen:l.length <= 1000000) (hm:m <= 65536) :
  vB prog 53 #[vd vn p,vd vq m,ve A n c] w fun e w'=>∃ v,e=vl v /\ w'.ownsRow w.1.size 22 1 v m (Ia ((List.range m).map fun k=>Bh Za (um Za 22 l) k%p)) /\ vA w.1.size w w':=by
 have HS:=zH (zE4 Za 22 A n c m l w VL hl Ta hlen hm);have HB:=zH (fun k=>Eh (Y6 Za 22 l k (by decide)) (show Za<18446744073709551616 by decide))
 clear hl Ta hlen;generalize Bh Za (um Za 22 l)=fs at *;unfold Za at HS;go_enter func53,ntmps53
 go_wp2_with fail
 refine HS.out.mono ?_;rintro e w1 ⟨v,rfl,hv,da⟩;obtain ⟨A1,c1,rfl,Ad,Re,Ma,-⟩:=ud hv;have hlw:RWd w1 [ve A1 m c1] ((List.range m).map fs):=Om hv (fun x hx=>by
  obtain ⟨k,_,rfl⟩:=ld.1 hx;exact HB.out k)
 clear hv Ma;go_wp2_with fail
 go_loopw [8,9] (fun v y wr=>∃ i:Nat,i <= m /\ y=vd vq i /\ wr.ownsRow w1.1.size 22 1 v i (Ia ((List.range i).map fun k=>fs k%p)) /\ vA w1.1.size w1 wr) (fun _ y _=>m-(intOf y).toNat)
 case atStart=>exact ⟨0,Lb _,rfl,TJ _ _ zR,(za _ _).alloc zR _⟩
 case round =>
  obtain ⟨i,hi,rfl,xa,Ca⟩:=hrel;by_cases ra:i<m
  ·have g2:(i:Int)<m:=by omega
   have g3:(0:Int)<=i:=by omega
   obtain ⟨-,-,-,-,Ma⟩:=Qb (Bb Ca hlw);have hlen:((List.range m).map fs).length=m:=by simp
   have Ma:Rd wr 1 A1 ((List.range m).map fs).length (Ia ((List.range m).map fs)):=by rw [hlen];exact Ma
   obtain ⟨b,q,rfl,Gb,hc⟩:=Ie Ma (j:=i) (by rw [hlen];exact ra)
   have Ts:((List.range m).map fs).getD i 0=fs i:=by simp [ra]
   rw [Ts] at hc;obtain ⟨fi,Vx⟩:=zEX (fs i);obtain ⟨z,hz⟩:=zEX (fi%p);have Xy:=zH (show ((List.range i).map fun k=>fs k%p)++[z]=(List.range (i+1)).map fun k=>fs k%p by rw [hz,Vx];exact wU (fun k=>fs k%p) _)
   rw [<- Vx] at hc;have Nf:(p:Int)≠0:=by omega
   have Ed:((p:Int) == 0)=false:=by rw [pd];omega
   have e1:(fi:Int)%(p:Int)=z:=by rw [hz];exact (Int.natCast_emod _ _).symm
   have e2:(fi:Int).tmod (p:Int)=z:=by rw [Int.tmod_eq_emod_of_nonneg (by omega)];exact e1
   clear Vx hz Ts hlen Ma;have yd:=Ca.size;go_wp2_with (at_builtin;refine oh rfl _ _ rfl Hp rfl (xa.alloc _) rfl (Ku _ _ _) (Ck [z]) (by omega) (by simp;omega) ?_)
   intro v' wn Kb Va Zb;have ja:=(za wr.1.size wr).alloc zR (.cells #[vd vn z] 22);have hB:=Sl (xa.alloc _) Va (by simp;have:=Ca.size;omega)
   replace Ca:=(zx Ca ja Ca.size).trans hB;replace Kb:wn.ownsRow w1.1.size 22 1 v' (i+1) (Ia ((List.range (i+1)).map fun k=>fs k%p)):=dA (a:=(List.range i).map fun k=>fs k%p) (b:=[z]) Kb Xy.out
   clear xa Va Zb ja hB hc Gb yd;go_wp2
   go_roundw
   case rel=>exact ⟨i+1,by omega,by go_num,Kb,Ca⟩
   case measure=>simp [intOf];omega
  ·obtain rfl:i=m:=by omega
   go_wp2;go_ret
   exact ⟨_,rfl,Xk xa da.size,ma da Ca⟩
structure Qn where
 lab:Nat
 el:List Nat
 ans:Nat
structure Ga where
 ideal:Bool
 st:Nat
 dr:Nat
 qs:List Qn
def Rc (l:List Nat):Bool:=l.all fun x=>decide (x<Za)
def Xn (lab:Nat) (l:List Nat):Nat:=(um Za lab l).a
theorem xM (lab:Nat) (l:List Nat):Xn lab l<Za:=(JQ (p:=Za) (by decide) l ⟨0,0,(lab*65536%Za+l.length)%Za⟩ ⟨show 0<Za by decide,show 0<Za by decide,ic _ (by decide)⟩).1
def AB (s:Nat):Nat:=(s+11400714819323198485)%18446744073709551616
def sN (z:Nat):Nat:=(z ^^^ (z >>> 30))*13787848793156543929%18446744073709551616
def tN (z:Nat):Nat:=(z ^^^ (z >>> 27))*10723151780598845931%18446744073709551616
def uN (z:Nat):Nat:=(z ^^^ (z >>> 31))%Za
def dMix (z:Nat):Nat:=uN (tN (sN z))
def Tn (lab:Nat) (el:List Nat) (q:Qn):Bool:=q.lab == lab&&q.el == el
def xd (qs:List Qn) (lab:Nat) (el:List Nat):Option Nat:=(qs.find? (Tn lab el)).map (·.ans)
def Wh (O:Ga) (lab:Nat) (el:List Nat) (a:Nat):Ga:=⟨O.ideal,O.st,O.dr,O.qs++[⟨lab,el,a⟩]⟩
def Jj (O:Ga):Ga:=⟨O.ideal,AB O.st,O.dr+1,O.qs⟩
def Cq (O:Ga):Nat:=dMix (AB O.st)
def ir (O:Ga) (lab:Nat) (el:List Nat):Option Nat :=
 if Rc el then (match xd O.qs lab el with | some a=>vE a | none=>if O.ideal then vD else vE (Xn lab el)) else vD
def Pd (O:Ga) (lab:Nat) (el:List Nat):Nat :=
 if Rc el then (match xd O.qs lab el with | some a=>a | none=>if O.ideal then Cq O else Xn lab el) else 0
def Dc (O:Ga) (lab:Nat) (el:List Nat):Ga :=
 if Rc el then (match xd O.qs lab el with | some _=>O | none=>if O.ideal then Wh (Jj O) lab el (Cq O) else Wh O lab el (Xn lab el)) else O
def newO (ideal:Bool) (seed:Nat):Ga:=⟨ideal,seed,0,[]⟩
def qg:List Nat -> List Nat
 | []=>[]
 | x :: r=>Gl x 8++qg r
theorem zO:∀ (a b:List Nat),qg (a++b)=qg a++qg b
 | [],b=>rfl
 | x :: r,b=>by simp [qg,zO r b]
theorem AO:∀ (l:List Nat),(qg l).length=8*l.length
 | []=>rfl
 | x :: r=>by simp [qg,AO r,zT];omega
theorem pX:∀ (k n:Nat),∀ x∈Gl n k,x<256
 | 0,_,x,h=>by simp [Gl] at h
 | k+1,n,x,h=>by
  simp only [Gl,Xg] at h;rcases h with rfl | h
  ·omega
  ·exact pX k _ x h
theorem xT:∀ (l:List Nat),∀ x∈qg l,x<256
 | [],x,h=>by simp [qg] at h
 | y :: r,x,h=>by
  simp only [qg,uq] at h;rcases h with h | h
  ·exact pX 8 y x h
  ·exact xT r x h
theorem oX:∀ (k a b:Nat),a<256^k -> b<256^k -> Gl a k=Gl b k -> a=b
 | 0,a,b,ha,hb,_=>by simp at ha hb;omega
 | k+1,a,b,ha,hb,h=>by
  simp only [Gl,List.cons.injEq] at h;rw [Ig] at ha hb;have:=oX k (a / 256) (b / 256) (by omega) (by omega) h.2
  omega
theorem UY:∀ {a b:List Nat},(∀ x∈a,x<18446744073709551616) -> (∀ x∈b,x<18446744073709551616) -> qg a=qg b -> a=b
 | [],[],_,_,_=>rfl
 | [],y :: r,_,_,h=>by have:=congrArg List.length h;simp [AO] at this
 | y :: r,[],_,_,h=>by have:=congrArg List.length h;simp [AO] at this
 | x :: r,y :: s,ha,hb,h=>by
  simp only [qg] at h;obtain ⟨h1,h2⟩:=List.append_inj h (by simp [zT])
  have e1:=oX 8 x y (by have:=ha x (by simp);omega) (by have:=hb y (by simp);omega) h1
  have e2:=UY (fun z hz=>ha z (by simp [hz])) (fun z hz=>hb z (by simp [hz])) h2
  rw [e1,e2]
theorem Z7:∀ {a b:List Nat},(∀ x∈a,x<256) -> (∀ x∈b,x<256) -> a.map (fun n=>UInt8.ofNat n)=b.map (fun n=>UInt8.ofNat n) -> a=b
 | [],[],_,_,_=>rfl
 | [],y :: r,_,_,h=>by simp at h
 | y :: r,[],_,_,h=>by simp at h
 | x :: r,y :: s,ha,hb,h=>by
  simp only [List.map_cons,List.cons.injEq] at h;have e1:x=y:=by
   have h3:=congrArg UInt8.toNat h.1;simp only [UInt8.toNat_ofNat'] at h3;have:=ha x (by simp)
   have:=hb y (by simp)
   omega
  rw [e1,Z7 (fun z hz=>ha z (by simp [hz])) (fun z hz=>hb z (by simp [hz])) h.2]
def Ml (lab:Nat) (el:List Nat):Lit:=.string ((qg (lab :: el)).map fun n=>UInt8.ofNat n)
theorem MY (lab:Nat) (el:List Nat):WideAt.IsKeyLit (Ml lab el):=trivial
theorem Zi {a:Nat} {l:List Nat} {B:Nat} (h:a<B) (hl:∀ x∈l,x<B):∀ x∈a :: l,x<B:=fun x hx=>by
 rcases Xg.1 hx with rfl | hx
 ·exact h
 ·exact hl x hx
theorem LY {lab Ql:Nat} {el el':List Nat} (h1:lab<18446744073709551616) (h2:Ql<18446744073709551616) (h3:∀ x∈el,x<18446744073709551616) (h4:∀ x∈el',x<18446744073709551616) (h:Ml lab el=Ml Ql el'):lab=Ql /\ el=el':=by
 unfold Ml at h
 injection h with h
 have:=UY (a:=lab :: el) (b:=Ql :: el') (Zi h1 h3) (Zi h2 h4) (Z7 (xT _) (xT _) h)
 injection this with e1 e2
 exact ⟨e1,e2⟩
def mF (qs:List Qn):DataW Unit × Nat:=qs.foldl (fun s q=>(s.1.put (Ml q.lab q.el) (.lit (.int vq s.2)),s.2+1)) (.map [],0)
def Cu (qs:List Qn):DataW Unit:=(mF qs).1
theorem QY (qs:List Qn) (q:Qn):mF (qs++[q])=((mF qs).1.put (Ml q.lab q.el) (.lit (.int vq ((mF qs).2:Int))),(mF qs).2+1):=by simp [mF,List.foldl_append]
theorem OP {p:List Qn -> Prop} (h0:p []) (h1:∀ l q,p l -> p (l++[q])) (l:List Qn):p l:=by
 have:∀ n (l:List Qn),l.length=n -> p l:=by
  intro n
  induction n with
  | zero=>intro l hl;rw [WI hl];exact h0
  | succ n ih =>
   intro l hl;have Ta:l≠[]:=fun e=>by rw [e] at hl;simp at hl
   rw [<- List.dropLast_concat_getLast Ta];exact h1 _ _ (ih _ (by simp [hl]))
 exact this _ l rfl
theorem zCm (qs:List Qn):(mF qs).2=qs.length:=OP (p:=fun qs=>(mF qs).2=qs.length) rfl (fun l q h=>by rw [QY];simp [h]) qs
theorem tO (qs:List Qn) (q:Qn):Cu (qs++[q])=(Cu qs).put (Ml q.lab q.el) (.lit (.int vq qs.length)):=by
 unfold Cu;rw [QY,zCm]
theorem PY (qs:List Qn):IsMap (Cu qs):=OP (p:=fun qs=>IsMap (Cu qs)) isMap_empty (fun l q h=>by rw [tO];exact h.put _ _) qs
theorem gJ {l:List Nat} (h:Rc l=true):∀ x∈l,x<18446744073709551616:=fun x hx=>by
 have:=of_decide_eq_true (Xd.1 h x hx);unfold Za at this;omega
structure PK (q:Qn):Prop where
 lab:q.lab<18446744073709551616
 el:Rc q.el=true
 ans:q.ans<Za
 len:q.el.length <= 1000000
structure OrcOk (O:Ga):Prop where
 st:O.st<18446744073709551616
 qs:∀ q∈O.qs,PK q
 apart:O.qs.Pairwise fun a b=>¬(a.lab=b.lab /\ a.el=b.el)
 real:O.ideal=false -> ∀ q∈O.qs,q.ans=Xn q.lab q.el
theorem eM {lab:Nat} {el:List Nat} {q:Qn}:Tn lab el q=true↔q.lab=lab /\ q.el=el:=by simp [Tn]
theorem RY {qs:List Qn} {lab:Nat} {el:List Nat} (h1:lab<18446744073709551616) (h2:∀ x∈el,x<18446744073709551616):(∀ q∈qs,PK q) -> Maps.has (Cu qs) (Ml lab el)=(xd qs lab el).isSome:=by
 refine OP (p:=fun qs=>(∀ q∈qs,PK q) -> Maps.has (Cu qs) (Ml lab el)=(xd qs lab el).isSome) (fun _=>rfl) (fun l q ih hq=>?_) qs
 have ih:=ih fun x hx=>hq x (by simp [hx])
 have hk:=hq q (by simp)
 rw [tO];by_cases e:Ml lab el=Ml q.lab q.el
 ·obtain ⟨e1,e2⟩:=LY h1 hk.lab h2 (gJ hk.el) e
  rw [e,has_put_same (PY l) (MY _ _)];unfold xd;rw [Option.isSome_map,List.find?_isSome.2 ⟨q,by simp,eM.2 ⟨e1.symm,e2.symm⟩⟩]
 ·rw [has_put_other e,ih]
  unfold xd;rw [List.find?_append];have:Tn lab el q=false:=by
   cases hc:Tn lab el q
   ·rfl
   ·obtain ⟨e1,e2⟩:=eM.1 hc
    exact absurd (by rw [e1,e2]) e
  simp [this]
theorem zCn {qs:List Qn} {lab:Nat} {el:List Nat} (h1:lab<18446744073709551616) (h2:∀ x∈el,x<18446744073709551616):(∀ q∈qs,PK q) -> (qs.Pairwise fun a b=>¬(a.lab=b.lab /\ a.el=b.el)) -> ∀ a,xd qs lab el=vE a -> ∃ (i:Nat) (q:Qn),qs[i]?=vE q /\ q.ans=a /\ ∀ z,(Cu qs).atKey (Ml lab el) z= .lit (.int vq i):=by
 refine OP (p:=fun qs=>(∀ q∈qs,PK q) -> (qs.Pairwise fun a b=>¬(a.lab=b.lab /\ a.el=b.el)) -> ∀ a,xd qs lab el=vE a -> ∃ (i:Nat) (q:Qn),qs[i]?=vE q /\ q.ans=a /\ ∀ z,(Cu qs).atKey (Ml lab el) z= .lit (.int vq i)) (fun _ _ a h=>by simp [xd] at h) (fun l q ih hq hp a ha=>?_) qs
 have hk:=hq q (by simp)
 rw [List.pairwise_append] at hp;have ih:=ih (fun x hx=>hq x (by simp [hx])) hp.1 a
 rw [tO];by_cases e:Ml lab el=Ml q.lab q.el
 ·obtain ⟨e1,e2⟩:=LY h1 hk.lab h2 (gJ hk.el) e
  refine ⟨l.length,q,by simp,?_,fun z=>by rw [e];exact atKey_put_same (PY l) (MY _ _) _ _⟩
  unfold xd at ha;rw [List.find?_append] at ha;have hn:l.find? (Tn lab el)=vD:=List.find?_eq_none.2 fun x hx hc=>by
   obtain ⟨e3,e4⟩:=eM.1 hc;exact hp.2.2 x hx q (by simp) ⟨by rw [e3,e1],by rw [e4,e2]⟩
  rw [hn] at ha;simp [Tn,e1.symm,e2.symm] at ha
  exact ha
 ·have Tp:Tn lab el q=false:=by
   cases hc:Tn lab el q
   ·rfl
   ·obtain ⟨e1,e2⟩:=eM.1 hc
    exact absurd (by rw [e1,e2]) e
  have:xd l lab el=vE a:=by
   unfold xd at ha |-;rw [List.find?_append] at ha
   simpa [Tp] using ha
  obtain ⟨i,q',h3,h4,h5⟩:=ih this;exact ⟨i,q',by rw [OD (Pu.1 (by simpa using (show l.toArray[i]?=vE q' by simpa using h3))).1];exact h3,h4,fun z=>by rw [atKey_put_other e];exact h5 z⟩
def Me (K:Nat -> Prop) (w:vw) (v:vx) (l:List Nat):Prop:=∀ u:vw,(∀ b,K b -> b<w.1.size -> u.1[b]?=w.1[b]?) -> RWd u [v] l
section
variable {K K' F F' TA:Nat -> Prop} {w w' fl u:vw} {v:vx} {l:List Nat}
theorem Sj (h:Me K w v l):RWd w [v] l:=h w fun _ _ _=>rfl
theorem Vv (h:Me K w v l) (hs:w.1.size <= w'.1.size) (hw:∀ b,K b -> b<w.1.size -> w'.1[b]?=w.1[b]?):Me K w' v l :=
 fun u hu=>h u fun b hb hl=>(hu b hb (by omega)).trans (hw b hb hl)
theorem GL (h:Me K w v l) (hk:∀ b,K b -> K' b):Me K' w v l:=fun u hu=>h u fun b hb hl=>hu b (hk b hb) hl
theorem Mm (h:Me K w v l) (hb:vA w.1.size w w'):Me K w' v l:=Vv h hb.size fun b _ hl=>hb.block b hl
theorem qi {base n size:Nat} {e:vz} {xs:List vx} (h:w.ownsRow base e size v n xs) (ha:∀ b,v.ownBlock=vE b -> u.1[b]?=w.1[b]?):u.ownsRow base e size v n xs:=by
 obtain ⟨h1,h2⟩:=h;refine ⟨h1,?_⟩;rcases h2 with h2 | ⟨g,cap,cur,hv,Il,hh,r⟩
 ·exact Or.inl h2
 ·exact Or.inr ⟨g,cap,cur,hv,Il,by rw [ha g (by rw [hv];rfl)];exact hh,r⟩
theorem iI {base n:Nat} {e:vz} (h:w.ownsRow base e 1 v n (Ia l)) (hl:∀ x∈l,x<18446744073709551616):Me (fun b=>v.ownBlock=vE b) w v l:=fun u hu=>by
 have ho:=qi h fun b hb=>hu b hb (h.lt b hb).2
 obtain ⟨A,c,rfl,-⟩:=ud ho;exact Om ho hl
theorem DJ {g n:Nat} {t:vz} (h:Blk w g t (Ia l).toArray) (hn:l.length=n) (hl:∀ x∈l,x<18446744073709551616) (hm:n <= maxLen):Me (fun b=>b=g) w (ve (vE ⟨g,0,vD⟩) n n) l:=fun u hu=>by
 subst hn;exact NC (t:=t) ((hu g rfl h.lt).trans h) hl hm
theorem cA (h:Me K w v l):∃ A c,v=ve A l.length c /\ l.length <= c /\ c <= maxLen /\ (∀ x∈l,x<18446744073709551616):=by
 obtain ⟨A,n,c,h1,h2,h3,h4,h5⟩:=Sj h;obtain ⟨rfl,h6,h7,h8,h9⟩:=Qb (w:=w) (A:=A) (n:=n) (c:=c) (l:=l) ⟨A,n,c,rfl,h2,h3,h4,h5⟩
 injection h1 with h1
 exact ⟨A,c,h1,h6,h7,h8⟩
structure Moved (F F':Nat -> Prop) (w w':vw):Prop where
 os:w'.os=w.os
 tape:w'.tape=w.tape
 output:w'.output=w.output
 size:w.1.size <= w'.1.size
 block:∀ b,b<w.1.size -> ¬F b -> w'.1[b]?=w.1[b]?
 foot:∀ b,F' b -> F b \/ w.1.size <= b
theorem Moved.refl:Moved F F w w:=⟨rfl,rfl,rfl,zR,fun _ _ _=>rfl,fun _ h=>.inl h⟩
theorem Moved.trans (h:Moved F F' w w') (k:Moved F' TA w' fl):Moved F TA w fl :=
 ⟨k.os.trans h.os,k.tape.trans h.tape,k.output.trans h.output,jb h.size k.size,fun b hb hn=>(k.block b (by have:=h.size;omega) (fun hf=>by rcases h.foot b hf with e | e;exact hn e;omega)).trans (h.block b hb hn),
  fun b hb=>by
   rcases k.foot b hb with e | e
   ·exact h.foot b e
   ·exact .inr (jb h.size e)⟩
theorem zd (h:vA w.1.size w w'):Moved F F w w':=⟨h.os,h.tape,h.output,h.size,fun b hb _=>h.block b hb,fun _ h=>.inl h⟩
theorem RL {row:Option Nat} (h:w.grownBy w' row) (hr:∀ b,row=vE b -> F b):Moved F F w w':=⟨h.os,h.tape,h.output,h.size,fun b hb hn=>h.block b hb (fun e=>hn (hr b e.symm)),fun _ h=>.inl h⟩
theorem zCW (h:Moved F F' w w') (hf:∀ b,TA b -> F' b \/ w.1.size <= b):Moved F TA w w':=⟨h.os,h.tape,h.output,h.size,h.block,fun b hb=>by
 rcases hf b hb with e | e
 ·exact h.foot b e
 ·exact .inr e⟩
theorem Zv (h:Moved F F' w w'):Moved F F' w w'.drew:=⟨h.os,h.tape,h.output,h.size,h.block,h.foot⟩
theorem fe (h:Moved F F' w w') {b:Nat} (hb:b<w.1.size) (hn:¬F b):¬F' b:=fun hf=>by
 rcases h.foot b hf with e | e
 ·exact hn e
 ·omega
theorem Blk.moved {g:Nat} {t:vz} {cs:Array vx} (h:Blk w g t cs) (m:Moved F F' w w') (hg:¬F g):Blk w' g t cs:=(m.block g h.lt hg).trans h
theorem AF {base n size:Nat} {e:vz} {xs:List vx} (h:w.ownsRow base e size v n xs) (m:Moved F F' w w') (hv:∀ b,v.ownBlock=vE b -> ¬F b):w'.ownsRow base e size v n xs :=
 qi h fun b hb=>m.block b (h.lt b hb).2 (hv b hb)
theorem zCo (h:Me K w v l) (m:Moved F F' w w') (hK:∀ b,K b -> ¬F b):Me K w' v l:=Vv h m.size fun b hb hl=>m.block b hl (hK b hb)
theorem dJ {w0:vw} (h:vA w0.1.size w0 w) (m:Moved F F' w w') (hF:∀ b,F b -> w0.1.size <= b):vA w0.1.size w0 w' :=
 h.trans ⟨m.os,m.tape,m.output,m.size,fun b hb=>m.block b (by have:=h.size;omega) (fun hf=>by have:=hF b hf;omega)⟩
end
def zi (F:Nat -> Prop) (N:Nat) (w w':vw):Prop:=w'.os=w.os /\ w'.tape=w.tape /\ w'.output=w.output /\ w.1.size <= w'.1.size /\ ∀ b,b<N -> ¬F b -> w'.1[b]?=w.1[b]?
theorem Jc (F:Nat -> Prop) (N:Nat):ie (zi F N):=⟨fun _=>⟨rfl,rfl,rfl,zR,fun _ _ _=>rfl⟩,fun _ _ _ h k=>⟨k.1.trans h.1,k.2.1.trans h.2.1,k.2.2.1.trans h.2.2.1,jb h.2.2.2.1 k.2.2.2.1,fun b h1 h2=>(k.2.2.2.2 b h1 h2).trans (h.2.2.2.2 b h1 h2)⟩⟩
theorem YR {F:Nat -> Prop} {N:Nat} {w w':vw} (h:zi F N w.drew w'):∀ b o,b<N -> ¬F b -> w'.cell? ⟨b,o,vD⟩=w.cell? ⟨b,o,vD⟩:=fun b o hb Ta=>by
 have:=h.2.2.2.2 b hb Ta;simp only [World.cell?,this]
 rfl
theorem DV {a b:Prop} (h:a) (s:Imp a b:=by
 (repeat ((first | (apply Imp.via (yV (Jc _ _) rfl rfl rfl (fun _ _ _ h=>h))) | (apply Imp.via (xV (v:=?_) (Jc _ _) rfl rfl rfl (fun _ _ _ h=>h) ?hr);case hr=>(intro w' hR;(first | have Bn:=YR ((Jc _ _).trans _ _ _ ea (hR rfl)) | skip);clear hR;go_simp;try with_reducible rfl)));simp only [vG,zLa,zLb,zLc]))
 exact Imp.rfl'):b:=s h
theorem Ir {a b:Prop} (h:a) (s:Imp a b:=by
 (repeat ((first | (apply Imp.via (bG (Jc _ _) rfl rfl (fun _ _ _ h=>h))) | (apply Imp.via (aG (v:=?_) (Jc _ _) rfl rfl (fun _ _ _ h=>h) ?hr);case hr=>(intro w' hR;(first | have Bn:=YR ((Jc _ _).trans _ _ _ ea hR) | skip);go_simp;try with_reducible rfl)));simp only [vG,zLa,zLb,zLc]))
 exact Imp.rfl'):b:=s h
theorem Mj {F:Nat -> Prop} {N B:Nat} {w w':vw} (h:vA B w w') (hN:N <= B):zi F N w w':=⟨h.os,h.tape,h.output,h.size,fun b hb _=>h.block b (by omega)⟩
theorem ZR {F F' TA:Nat -> Prop} {N:Nat} {w w':vw} (h:Moved F' TA w w') (hN:N <= w.1.size) (hf:∀ b,b<N -> F' b -> F b):zi F N w w':=⟨h.os,h.tape,h.output,h.size,fun b hb hn=>h.block b (by omega) (fun e=>hn (hf b hb e))⟩
theorem zBJ {F:Nat -> Prop} {N:Nat} {w w':vw} {row:Option Nat} (h:w.grownBy w' row) (hN:N <= w.1.size) (hr:∀ b,row=vE b -> F b):zi F N w w':=⟨h.os,h.tape,h.output,h.size,fun b hb hn=>h.block b (by omega) (fun e=>hn (hr b e.symm))⟩
def mB (E:Nat -> Prop) (w:vw) (cs:List vx) (qs:List Qn):Prop :=
 cs.length=qs.length*3 /\ ∀ (i:Nat) (q:Qn),qs[i]?=vE q -> cs[i*3]?=vE (vd vn q.lab) /\ cs[i*3+2]?=vE (vd vn q.ans) /\ ∃ s,cs[i*3+1]?=vE s /\ Me E w s q.el
theorem aK {E:Nat -> Prop} {w w':vw} {cs:List vx} {qs:List Qn} (h:mB E w cs qs) (hs:w.1.size <= w'.1.size) (hw:∀ b,E b -> b<w.1.size -> w'.1[b]?=w.1[b]?):mB E w' cs qs :=
 ⟨h.1,fun i q hq=>by
  obtain ⟨h1,h2,s,h3,h4⟩:=h.2 i q hq;exact ⟨h1,h2,s,h3,Vv h4 hs hw⟩⟩
theorem zEK {E E':Nat -> Prop} {w:vw} {cs:List vx} {qs:List Qn} (h:mB E w cs qs) (hE:∀ b,E b -> E' b):mB E' w cs qs :=
 ⟨h.1,fun i q hq=>by
  obtain ⟨h1,h2,s,h3,h4⟩:=h.2 i q hq;exact ⟨h1,h2,s,h3,GL h4 hE⟩⟩
theorem zEL (E:Nat -> Prop) (w:vw):mB E w [] []:=⟨rfl,fun i q h=>by simp at h⟩
theorem zEJ {E:Nat -> Prop} {w:vw} {cs:List vx} {qs:List Qn} {s:vx} {q:Qn} (h:mB E w cs qs) (hs:Me E w s q.el):mB E w (cs++[vd vn q.lab,s,vd vn q.ans]) (qs++[q]):=by
 refine ⟨by simp [h.1];omega,fun i x hx=>?_⟩
 by_cases hi:i<qs.length
 ·rw [OD hi] at hx
  obtain ⟨h1,h2,t,h3,h4⟩:=h.2 i x hx;have hl:=h.1;exact ⟨by rw [OD (by omega)];exact h1,by rw [OD (by omega)];exact h2,t,by rw [OD (by omega)];exact h3,h4⟩
 ·rw [Su (by omega)] at hx
  have Hf:i-qs.length=0:=by
   rcases xo (i-qs.length) with e | e
   ·exact e
   ·rw [Xr (by simp;omega)] at hx;cases hx
  rw [Hf] at hx
  injection hx with hx
  subst hx;have hl:=h.1;have e1:i=qs.length:=by omega
  subst e1;refine ⟨?_,?_,s,?_,hs⟩
  ·rw [Su (by omega),hl,Nat.sub_self];rfl
  ·rw [Su (by omega),hl,show qs.length*3+2-qs.length*3=2 by omega];rfl
  ·rw [Su (by omega),hl,show qs.length*3+1-qs.length*3=1 by omega];rfl
structure OrcIn (w:vw) (g:Nat) (O:Ga) (F:Nat -> Prop) (v:vx) (cs:List vx) (km sm pm:Nat) (E:Nat -> Prop):Prop where
 ok:OrcOk O
 blk:Blk w g 121 #[.bool O.ideal,vd vn O.st,vd vq O.dr,v, .map (vE km), .map (vE sm), .map (vE pm)]
 own:w.ownsRow 0 95 3 v O.qs.length cs
 rows:mB E w cs O.qs
 map:w.ownsMap prog 9 (plainElem prog 3) km O.qs.length (Cu O.qs)
 el:∀ b,E b -> b<w.1.size /\ b≠g /\ b≠km /\ v.ownBlock≠vE b
 kmg:km≠g
 vkm:v.ownBlock≠vE km
 vg:v.ownBlock≠vE g
 fg:F g
 fv:∀ b,v.ownBlock=vE b -> F b
 fkm:F km
 fE:∀ b,E b -> F b
 lt:∀ b,F b -> b<w.1.size
def OrcAt (w:vw) (g:Nat) (O:Ga) (F:Nat -> Prop):Prop:=∃ v cs km sm pm E,OrcIn w g O F v cs km sm pm E
section
variable {w w':vw} {g:Nat} {O:Ga} {F:Nat -> Prop}
theorem OrcIn.keep {v:vx} {cs:List vx} {km sm pm:Nat} {E:Nat -> Prop} (h:OrcIn w g O F v cs km sm pm E) (hs:w.1.size <= w'.1.size) (hw:∀ b,F b -> w'.1[b]?=w.1[b]?):OrcIn w' g O F v cs km sm pm E where
 ok:=h.ok
 blk:=(hw g h.fg).trans h.blk
 own:=qi h.own fun b hb=>hw b (h.fv b hb)
 rows:=aK h.rows hs fun b hb _=>hw b (h.fE b hb)
 map:=by
  obtain ⟨es,clock,h1,h2⟩:=h.map;exact ⟨es,clock,(hw km h.fkm).trans h1,h2⟩
 el:=fun b hb=>⟨Sd (h.el b hb).1 hs,(h.el b hb).2⟩
 kmg:=h.kmg
 vkm:=h.vkm
 vg:=h.vg
 fg:=h.fg
 fv:=h.fv
 fkm:=h.fkm
 fE:=h.fE
 lt:=fun b hb=>Sd (h.lt b hb) hs
theorem OrcAt.keep (h:OrcAt w g O F) (hs:w.1.size <= w'.1.size) (hw:∀ b,F b -> w'.1[b]?=w.1[b]?):OrcAt w' g O F:=by
 obtain ⟨v,cs,km,sm,pm,E,h⟩:=h;exact ⟨v,cs,km,sm,pm,E,h.keep hs hw⟩
theorem OrcAt.lt (h:OrcAt w g O F):∀ b,F b -> b<w.1.size:=by
 obtain ⟨v,cs,km,sm,pm,E,h⟩:=h;exact h.lt
theorem OrcAt.ok (h:OrcAt w g O F):OrcOk O:=by
 obtain ⟨v,cs,km,sm,pm,E,h⟩:=h;exact h.ok
theorem OrcAt.fg (h:OrcAt w g O F):F g:=by
 obtain ⟨v,cs,km,sm,pm,E,h⟩:=h;exact h.fg
theorem OrcIn.below {v:vx} {cs:List vx} {km sm pm:Nat} {E:Nat -> Prop} (h:OrcIn w g O F v cs km sm pm E) (hb:vA w.1.size w w'):OrcIn w' g O F v cs km sm pm E:=h.keep hb.size fun b hf=>hb.block b (h.lt b hf)
theorem OrcAt.below (h:OrcAt w g O F) (hb:vA w.1.size w w'):OrcAt w' g O F:=h.keep hb.size fun b hf=>hb.block b (h.lt b hf)
theorem OrcIn.drew {v:vx} {cs:List vx} {km sm pm:Nat} {E:Nat -> Prop} (h:OrcIn w g O F v cs km sm pm E):OrcIn w.drew g O F v cs km sm pm E:=h.keep zR fun _ _=>rfl
theorem OrcAt.drew (h:OrcAt w g O F):OrcAt w.drew g O F:=h.keep zR fun _ _=>rfl
theorem OrcAt.moved {F1 F2:Nat -> Prop} (h:OrcAt w g O F) (m:Moved F1 F2 w w') (hd:∀ b,F b -> ¬F1 b):OrcAt w' g O F:=h.keep m.size fun b hf=>m.block b (h.lt b hf) (hd b hf)
end
theorem qW {l:List Nat} {j:Nat} (hj:j<l.length) (h:Rc (l.take j)=true) (hx:l.getD j 0<Za):Rc (l.take (j+1))=true:=by
 unfold Rc at *;rw [JJ l j hj,List.all_append,h];simp only [List.all_cons,List.all_nil,Bool.and_true,Bool.true_and];exact yb hx
theorem pW {l:List Nat} {j:Nat} (hj:j<l.length) (hx:Za <= l.getD j 0):Rc l=false:=by
 unfold Rc;rw [bz];refine ⟨l.getD j 0,?_,by rw [decide_eq_true_iff];omega⟩
 rw [Jb,oc hj];exact wg _
theorem G0 (A:Option vy) (n c:Nat) (l:List Nat) (w:vw) (hl:RWd w [ve A n c] l) :
  vB prog 203 #[ve A n c] w fun e w'=>e=vl (.bool (Rc l)) /\ w=w':=by
 obtain ⟨rfl,h1,h2,-,Ma⟩:=Qb hl;have gm:=Tl h1 h2;clear hl h1 h2;go_enter func203,ntmps203
 go_wp2_with fail
 go_loop [7] (fun i=>∃ j:Nat,j <= l.length /\ i=vd vq j /\ Hid (Rc (l.take j)=true)) (fun i=>l.length-(intOf i).toNat)
 case atStart=>exact ⟨0,Lb _,rfl,rfl⟩
 case round =>
  obtain ⟨j,hj,rfl,HB⟩:=hrel;by_cases ra:j<l.length
  ·obtain ⟨b,q,rfl,Gb,hc⟩:=Ie Ma ra
   have HL:=zH ra;have g1:(0:Int)<=j:=by omega
   have g2:(j:Int)<l.length:=by omega
   have HN:=zH (fun h=>pW (l:=l) ra h)
   have HY:=zH (fun h=>qW (l:=l) ra HB.out h)
   revert hc HN HY
   generalize l.getD j 0=y;intro hc HN HY;clear Ma;by_cases z:Za <= y
   ·have HZ:=zH (HN.out z)
    unfold Za at z;have d1:decide ((18446744069414584321:Int)<=y)=true:=yb (by omega)
    clear HN HY;go_wp2;go_ret
    exact ⟨by rw [HZ.out];rfl,rfl⟩
   ·have HZ:=zH (HY.out (by omega))
    unfold Za at z;have d1:decide ((18446744069414584321:Int)<=y)=false:=xb (by omega)
    clear HN HY;go_wp2
    go_round
    case rel=>exact ⟨j+1,by omega,by go_num,HZ.out⟩
    case measure=>simp [intOf];omega
  ·have e:j=l.length:=by omega
   have HA:=zH (show Rc l=true by have:=HB.out;rwa [e,Cp] at this)
   clear Ma;go_wp2;go_ret
   exact ⟨by rw [HA.out];rfl,rfl⟩
theorem zAE (A:Option vy) (n c:Nat) (l:List Nat) (w:vw) (hl:RWd w [ve A n c] l) (hlen:l.length <= 10000000) :
  vB prog 197 #[ve A n c] w fun e w'=>∃ v,e=vl v /\ w'.ownsRow w.1.size 22 1 v n (Ia l) /\ vA w.1.size w w':=by
 obtain ⟨rfl,h1,h2,ra,Ma⟩:=Qb hl;clear hl;have h0:w.ownsRow w.1.size 22 1 (ve vD 0 0) 0 []:=⟨rfl, .inl ⟨rfl,rfl⟩⟩;go_enter func197,ntmps197
 go_wp2_with (at_builtin;refine oh rfl _ _ rfl CB rfl h0 rfl Ma (Ck _) (by omega) zR ?_)
 intro v' w1 xa Va Zb;go_wp2;go_ret
 exact ⟨_,rfl,xa,Sl h0 Va zR⟩
theorem xW (base:Nat) (v:vx) (m x:Nat) (xs:List vx) (w:vw) (ho:w.ownsRow base 5 1 v m xs) (hx:x<18446744073709551616) (hk:m <= 100000000) (hb:base <= w.1.size) :
  vB prog 270 #[v,vd vn x] w fun e w'=>∃ v',e=vl v' /\ w'.ownsRow base 5 1 v' (m+8) (xs++U8 (Gl x 8)) /\ w.grownBy w' v.ownBlock /\ (∀ g,v'.ownBlock=vE g -> v.ownBlock=vE g \/ w.1.size <= g):=by
 go_enter func270,ntmps270
 go_wp2_with fail
 go_loopw [0,1,5] (fun s y i wr=>∃ j z:Nat,j <= 8 /\ i=vd vq j /\ y=vd vn z /\ Hid (z=x / 256^j) /\ z<18446744073709551616 /\ wr.ownsRow base 5 1 s (m+j) (xs++U8 (Gl x j)) /\ w.grownBy wr v.ownBlock /\ (∀ g,s.ownBlock=vE g -> v.ownBlock=vE g \/ w.1.size <= g))
  (fun _ _ i _=>8-(intOf i).toNat)
 case atStart=>exact ⟨0,x,Lb _,rfl,rfl,by simp [Hid],hx,by simpa [Gl,U8] using ho,Vd _ _,fun g h=>.inl h⟩
 case round =>
  obtain ⟨j,z,hj,rfl,rfl,HZ,hz,xa,Pa,Gb⟩:=hrel;have HB:=zH Gb;clear Gb;by_cases ra:j<8
  ·have hs:=Pa.size
   go_wp2_with (at_builtin;refine oh rfl _ _ rfl el_u8 rfl (xa.alloc _) rfl (Ku _ (vd vu ((z:Int)%256)) _) ?_ ?_ ?_ ?_)
   ·intro u hu;simp at hu;subst hu;rfl
   ·omega
   ·simp;omega
   intro v' w1 Kb Va zm;have re:=Va.size;simp only [World.size_alloc] at re zm;have R:=zDC (zBS Pa _) HB.out Va (zm.imp id fun h=>⟨_,h,by simp⟩)
   have HR:=zH R;clear xa Pa Va zm R HB;go_wp2
   go_roundw
   case rel =>
    refine ⟨j+1,z / 256,by omega,by go_num,by go_num,?_,by omega,?_,HR.out.1,HR.out.2⟩
    ·show z / 256=x / 256^(j+1)
     rw [HZ.out,Nat.div_div_eq_div_mul,Ig]
    ·rw [qX,<- HZ.out,IQ,<- fB]
     rw [<- fB] at Kb;exact Kb
   case measure=>simp [intOf];omega
  ·go_wp2
   go_ret
   have e:j=8:=by omega
   subst e;exact ⟨_,rfl,xa,Pa,HB.out⟩
theorem VY (l:List Nat) (j:Nat) (h:j<l.length):qg (l.take (j+1))=qg (l.take j)++Gl (l.getD j 0) 8:=by
 rw [JJ l j h,zO];simp [qg]
theorem NY (A B:Option vy) (n c m d:Nat) (l k:List Nat) (w:vw) (hl:RWd w [ve A n c] l) (hk:RWd w [ve B m d] k) (h1:l.length <= 1000000) (h2:k.length <= 1000000) :
  vB prog 204 #[ve A n c,ve B m d] w fun e w'=>e=vl (.string (S (qg (k++l)))) /\ vA w.1.size w w':=by
 obtain ⟨rfl,h3,h4,ra,Ma⟩:=Qb hl;obtain ⟨rfl,h5,h6,xf,Uz⟩:=Qb hk;clear hl hk h3 h4 h5 h6;have rp:=zH ra;have Hk:=zH xf;clear ra xf;have e1:vq.wrap ((k.length:Int)+l.length)=((k.length+l.length:Nat):Int):=by rw [so];omega
 have e2:vq.wrap (8*((k.length+l.length:Nat):Int))=((8*(k.length+l.length):Nat):Int):=by rw [so];omega
 obtain ⟨t,ht⟩:=zEX (8*(k.length+l.length));obtain ⟨s,hs⟩:=zEX (k.length+l.length);rw [<- hs] at e1 e2 ht;rw [<- ht] at e2;have g0:(t:Int) <= 16000000:=by omega
 have HT:=zH ht;have HS:=zH hs;clear ht hs;have ki:∀ u:vw,(Instr.makeSlice 83 (vd vq 0) (vd vq t)).run prog u =
   .ok (ve (vE ⟨u.1.size,0,vD⟩) 0 t) (u.alloc (.cells (madeCells #[vd vu 0] t) 5)):=fun u=>by
  obtain ⟨i0,hi,sj,Nd,Bf⟩:=info_parts IY;have h:=run_make (P:=prog) u 83 5 i0 (vd vu 0) underlying83 hi sj vq vq 0 (t:Int) (by omega) (by omega) (by rw [Bf];omega) (by omega)
  rw [Lk] at h
  simpa [Nd,Value.cells] using h
 have TE:=World.ownsRow_made (base:=w.1.size) (e:=5) (size:=1) w (madeCells #[vd vu 0] t) t zR (by simp [maxLen];omega) (by rw [size_madeCells,Yr])
 have da:=(za w.1.size w).alloc zR (.cells (madeCells #[vd vu 0] t) 5);go_enter func204,ntmps204
 go_wp2_with fail
 generalize w.alloc _=w0 at TE da |-;clear ki;go_loopw [5,19] (fun s i wr=>∃ j:Nat,j <= k.length /\ i=vd vq j /\ wr.ownsRow w.1.size 5 1 s (8*j) (U8 (qg (k.take j))) /\ vA w.1.size w wr) (fun _ i _=>k.length-(intOf i).toNat)
 case atStart=>exact ⟨0,Lb _,rfl,by simpa [qg,U8] using TE,da⟩
 case round =>
  clear TE da;obtain ⟨j,hj,rfl,xa,hb⟩:=hrel;by_cases ra:j<k.length
  ·obtain ⟨b,q,rfl,Gb,hc⟩:=Ie (Uz.below hb) ra
   have g1:(0:Int)<=j:=by omega
   have g2:(j:Int)<k.length:=by omega
   have HY:=zH (qI Hk.out ra);have HE:=zH (VY k j ra);have HL:=zH ra;clear ra;revert hc HY HE
   generalize k.getD j 0=y;intro hc HY HE;go_wp2_with fail
   refine (xW w.1.size _ (8*j) y _ _ xa HY.out (by have:=HL.out;omega) hb.size).mono ?_
   rintro e w1 ⟨v',rfl,Kb,Pa,zm⟩;have Ca:=hb.trans (qz Pa w.1.size hb.size (fun g hg=>(Q2 xa g hg).1))
   clear Pa zm xa hb hc;rw [<- IQ,<- HE.out] at Kb;go_wp2
   go_roundw
   case rel=>exact ⟨j+1,by have:=HL.out;omega,by go_num,by rw [show 8*(j+1)=8*j+8 by omega];exact Kb,Ca⟩
   case measure=>have:=HL.out;simp [intOf];omega
  ·have e:j=k.length:=by omega
   subst e;rw [Cp] at xa;clear ra hj;go_wp2_with fail
   go_loopw [5,29] (fun s i wq=>∃ j:Nat,j <= l.length /\ i=vd vq j /\ wq.ownsRow w.1.size 5 1 s (8*(k.length+j)) (U8 (qg (k++l.take j))) /\ vA w.1.size w wq) (fun _ i _=>l.length-(intOf i).toNat)
   case atStart=>exact ⟨0,Lb _,rfl,by simpa using xa,hb⟩
   case round =>
    clear xa hb;obtain ⟨j,hj,rfl,xa,hb⟩:=hrel;by_cases ra:j<l.length
    ·obtain ⟨b,q,rfl,Gb,hc⟩:=Ie (Ma.below hb) ra
     have g1:(0:Int)<=j:=by omega
     have g2:(j:Int)<l.length:=by omega
     have HY:=zH (qI rp.out ra);have HE:=zH (show qg (k++l.take (j+1))=qg (k++l.take j)++Gl (l.getD j 0) 8 by rw [zO,zO,VY l j ra,fB])
     have HL:=zH ra;clear ra;revert hc HY HE
     generalize l.getD j 0=y;intro hc HY HE;go_wp2_with fail
     refine (xW w.1.size _ (8*(k.length+j)) y _ _ xa HY.out (by have:=HL.out;omega) hb.size).mono ?_
     rintro e w1 ⟨v',rfl,Kb,Pa,zm⟩;have Ca:=hb.trans (qz Pa w.1.size hb.size (fun g hg=>(Q2 xa g hg).1))
     clear Pa zm xa hb hc;rw [<- IQ,<- HE.out] at Kb;go_wp2
     go_roundw
     case rel=>exact ⟨j+1,by have:=HL.out;omega,by go_num,by rw [show 8*(k.length+(j+1))=8*(k.length+j)+8 by omega];exact Kb,Ca⟩
     case measure=>have:=HL.out;simp [intOf];omega
    ·have e:j=l.length:=by omega
     subst e;rw [Cp] at xa;clear ra hj;obtain ⟨A',c',rfl,-,-,dO,-⟩:=ud xa;have Iv:=zFs (P:=prog) (w:=_) (dst:=9) (c:=c') underlying83 underlying5 underlying9 dO;go_wp2;go_ret
     exact ⟨rfl,hb⟩
theorem OrcIn.turn {w w':vw} {g:Nat} {O O':Ga} {F:Nat -> Prop} {v:vx} {cs:List vx} {km sm pm:Nat} {E:Nat -> Prop} (h:OrcIn w g O F v cs km sm pm E) (ok:OrcOk O') (hq:O'.qs=O.qs)
  (kb:Blk w' g 121 #[.bool O'.ideal,vd vn O'.st,vd vq O'.dr,v, .map (vE km), .map (vE sm), .map (vE pm)]) (hg:w.grownBy w' (vE g)):OrcIn w' g O' F v cs km sm pm E where
 ok:=ok
 blk:=kb
 own:=by rw [hq];exact qi h.own fun b hb=>hg.block b (h.own.lt b hb).2 (fun e=>h.vg (by rw [hb,e]))
 rows:=by rw [hq];exact aK h.rows hg.size fun b hb hl=>hg.block b hl (fun e=>(h.el b hb).2.1 (db e))
 map:=by
  rw [hq];obtain ⟨es,clock,h1,h2⟩:=h.map;exact ⟨es,clock,(hg.block km (h.lt km h.fkm) (fun e=>h.kmg (db e))).trans h1,h2⟩
 el:=fun b hb=>⟨Sd (h.el b hb).1 hg.size,(h.el b hb).2⟩
 kmg:=h.kmg
 vkm:=h.vkm
 vg:=h.vg
 fg:=h.fg
 fv:=h.fv
 fkm:=h.fkm
 fE:=h.fE
 lt:=fun b hb=>Sd (h.lt b hb) hg.size
theorem RN (w:vw) (g i j:Nat) (x y:vx):w.grownBy ((w.setCell ⟨g,i,vD⟩ x).setCell ⟨g,j,vD⟩ y) (vE g):=Mf (p:=⟨g,j,vD⟩) (Mf (p:=⟨g,i,vD⟩) (Vd w (vE g)) (.inl rfl) x) (.inl rfl) y
theorem aE {w:vw} {g:Nat} {t:vz} {cs:Array vx} (k:Blk w g t cs) (i j:Nat) (x y:vx):Blk ((w.setCell ⟨g,i,vD⟩ x).setCell ⟨g,j,vD⟩ y) g t ((cs.setIfInBounds i x).setIfInBounds j y):=(k.set_ i x).set_ j y
theorem zDx {i:Bool} {st dr:Nat} {qs:List Qn} (h:OrcOk ⟨i,st,dr,qs⟩) {s1 d1:Nat} (hs:s1<18446744073709551616):OrcOk ⟨i,s1,d1,qs⟩:=⟨hs,h.qs,h.apart,h.real⟩
theorem zAZ (i:Bool) (st dr:Nat) (qs:List Qn):Jj ⟨i,st,dr,qs⟩=⟨i,AB st,dr+1,qs⟩:=rfl
theorem zAX (i:Bool) (st dr:Nat) (qs:List Qn):Cq ⟨i,st,dr,qs⟩=uN (tN (sN (AB st))):=rfl
theorem zAY {w:vw} {g:Nat} {O:Ga} {F:Nat -> Prop} {v:vx} {cs:List vx} {km sm pm:Nat} {E:Nat -> Prop} (h:OrcIn w g O F v cs km sm pm E) (hi:O.ideal=true) (hd:O.dr <= 1000000000) :
  vB prog 224 #[.pointer (vE ⟨g,0,vD⟩)] w fun e w'=>e=vl (vd vn (Cq O:Int)) /\ OrcIn w' g (Jj O) F v cs km sm pm E /\ w.grownBy w' (vE g):=by
 obtain ⟨ideal,st,dr,qs⟩:=O;have Gd:st<18446744073709551616:=h.ok.st;have kb:Blk w g 121 #[.bool ideal,vd vn st,vd vq dr,v, .map (vE km), .map (vE sm), .map (vE pm)]:=h.blk;have hd':dr <= 1000000000:=hd;clear hd;have FE:ideal=true:=hi;subst FE;clear hi;have H:=zH h;have e1:vq.wrap ((dr:Int)+1)=((dr+1:Nat):Int):=by rw [so];omega
 have e2:vn.wrap ((st:Int)+11400714819323198485)=((AB st:Nat):Int):=by rw [Ei];unfold AB;omega
 have hz:AB st<18446744073709551616:=ic _ (by decide)
 obtain ⟨dr1,hdr⟩:=zEX (dr+1);rw [<- hdr] at e1;obtain ⟨s1,yd⟩:=zEX (AB st);rw [<- yd] at e2 hz;have HD:=zH hdr;have HS:=zH yd;clear hdr yd h;obtain ⟨a1,Gz⟩:=zEX (s1 ^^^ (s1 >>> 30));have ha1l:a1<18446744073709551616:=by rw [Gz];exact Nat.xor_lt_two_pow (n:=64) hz (by rw [EG];omega)
 have x1:bits BinOp.xor vn (s1:Int) ((s1:Int) / 1073741824)=(a1:Int):=by
  rw [show (s1:Int) / (1073741824:Int)=((s1 >>> 30:Nat):Int) by rw [EG];omega,bits_xor_u64_nat _ _ hz (by rw [EG];omega),Gz]
 obtain ⟨a,ha⟩:=zEX (a1*13787848793156543929%18446744073709551616);have ja:a<18446744073709551616:=by omega
 have m1:vn.wrap ((a1:Int)*13787848793156543929)=(a:Int):=by rw [Ei];omega
 have HA:=zH (show a=sN s1 by rw [ha,Gz,sN])
 clear ha Gz;obtain ⟨b1,Ca⟩:=zEX (a ^^^ (a >>> 27));have hb1l:b1<18446744073709551616:=by rw [Ca];exact Nat.xor_lt_two_pow (n:=64) ja (by rw [EG];omega)
 have x2:bits BinOp.xor vn (a:Int) ((a:Int) / 134217728)=(b1:Int):=by
  rw [show (a:Int) / (134217728:Int)=((a >>> 27:Nat):Int) by rw [EG];omega,bits_xor_u64_nat _ _ ja (by rw [EG];omega),Ca]
 obtain ⟨b,hb⟩:=zEX (b1*10723151780598845931%18446744073709551616);have Gb:b<18446744073709551616:=by omega
 have m2:vn.wrap ((b1:Int)*10723151780598845931)=(b:Int):=by rw [Ei];omega
 have HB:=zH (show b=tN a by rw [hb,Ca,tN])
 clear hb Ca;obtain ⟨c1,Ad⟩:=zEX (b ^^^ (b >>> 31));have x3:bits BinOp.xor vn (b:Int) ((b:Int) / 2147483648)=(c1:Int):=by
  rw [show (b:Int) / (2147483648:Int)=((b >>> 31:Nat):Int) by rw [EG];omega,bits_xor_u64_nat _ _ Gb (by rw [EG];omega),Ad]
 obtain ⟨c,hcz⟩:=zEX (c1%18446744069414584321);have m3:(c1:Int).tmod 18446744069414584321=(c:Int):=by rw [Int.tmod_eq_emod_of_nonneg (by omega)];omega
 have HC:=zH (show c=uN b by rw [hcz,Ad,uN,Za])
 clear hcz Ad;have X1:=zH ha1l;have X2:=zH hb1l;have X3:=zH hz;clear ha1l hb1l ja Gb hz Gd;have hv:Cq ⟨true,st,dr,qs⟩=c:=by rw [zAX,<- HS.out,<- HA.out,<- HB.out,<- HC.out]
 rw [hv];clear hv HA HB HC;obtain ⟨O1,tn⟩:=zEX (Jj ⟨true,st,dr,qs⟩);rw [<- tn];have HO:=zH (show O1=⟨true,s1,dr1,qs⟩ by rw [tn,zAZ,HS.out,HD.out])
 clear tn HS HD;have hc:=kb.cell;have hf:=kb.frozen;have KB:=zH kb;clear kb;go_enter func224,ntmps224
 go_wp2_with fail
 go_ret
 have hg:=RN w g 2 1 (vd vq dr1) (vd vn s1);have kb:=aE KB.out 2 1 (vd vq dr1) (vd vn s1);generalize (w.setCell ⟨g,2,vD⟩ (vd vq dr1)).setCell ⟨g,1,vD⟩ (vd vn s1)=w1 at hg kb |-;refine ⟨rfl,?_,hg⟩;rw [HO.out];exact H.out.turn (O':=⟨true,s1,dr1,qs⟩) (zDx H.out.ok X3.out) rfl (by simpa using kb) hg
theorem info_q:(prog.info? 95).map (fun i=>(i.zero,i.size,i.bytes))=vE (vE (vf #[vd vn 0,ve vD 0 0,vd vn 0]),3,40):=by kernel_rfl
theorem gL:Jt prog 60 95 3 40 (vf #[vd vn 0,ve vD 0 0,vd vn 0]):=by
 obtain ⟨i0,hi,sj,Nd,Bf⟩:=info_parts info_q;exact ⟨underlying60,⟨i0,hi,sj,Nd,Bf⟩,rfl,by omega⟩
theorem jM (w:vw) (x y z:vx) (t:vz):Rd (w.alloc (.cells #[x,y,z] t)) 3 (vE ⟨w.1.size,0,vD⟩) 1 [x,y,z]:=by
 refine ⟨rfl,fun _=>⟨_,rfl,fun j u hj=>?_⟩⟩
 match j,hj with
 | 0,hj=>simp at hj;subst hj;simp [Addr.add]
 | 1,hj=>simp at hj;subst hj;simp [Addr.add]
 | 2,hj=>simp at hj;subst hj;simp [Addr.add]
theorem vT:Keyed prog 9:=string_keyed underlying9
theorem qT (lab:Nat) (l:List Nat) (h:l.length <= 1000000):keyOf prog 9 (.string (S (qg (lab :: l))))=vE (Ml lab l):=by
 have:=WideMaps.keyOf_string_mk (P:=prog) underlying9 (s:=S (qg (lab :: l))) (by rw [Y8,AO,jf];simp only [maxLen];omega)
 rw [this];simp [S,Ml]
theorem zDw {O:Ga} (h:OrcOk O) {lab:Nat} {l:List Nat} {an:Nat} (bh:lab<18446744073709551616) (Li:Rc l=true) (han:an<Za) (hlen:l.length <= 1000000) (zJ:xd O.qs lab l=vD) (eO:O.ideal=false -> an=Xn lab l):OrcOk (Wh O lab l an):=by
 refine ⟨h.st,fun q hq=>?_,?_,fun hi q hq=>?_⟩
 ·rcases uq.1 hq with hq | hq
  ·exact h.qs q hq
  ·rw [zp.1 hq];exact ⟨bh,Li,han,hlen⟩
 ·show (O.qs++[_]).Pairwise _
  rw [List.pairwise_append];refine ⟨h.apart,List.pairwise_singleton _ _,fun a ha b hb hc=>?_⟩
  rw [zp.1 hb] at hc;unfold xd at zJ;rw [Option.map_eq_none_iff] at zJ;have:=List.find?_eq_none.1 zJ a ha;exact this (eM.2 hc)
 ·rcases uq.1 hq with hq | hq
  ·exact h.real hi q hq
  ·rw [zp.1 hq];exact eO hi
structure OrcPre (w:vw) (g km:Nat) (cells:Array vx) (v:vx) (n m:Nat) (cs:List vx) (qs:List Qn) (D:DataW Unit) (E:Nat -> Prop):Prop where
 blk:Blk w g 121 cells
 own:w.ownsRow 0 95 3 v n cs
 rows:mB E w cs qs
 map:w.ownsMap prog 9 (plainElem prog 3) km m D
theorem OrcPre.keep {w w':vw} {g km:Nat} {cells:Array vx} {v:vx} {n m:Nat} {cs:List vx} {qs:List Qn} {D:DataW Unit} {E F:Nat -> Prop} (h:OrcPre w g km cells v n m cs qs D E) (hF:F g /\ F km /\ (∀ b,v.ownBlock=vE b -> F b) /\ ∀ b,E b -> F b)
  (hs:w.1.size <= w'.1.size) (hw:∀ b,F b -> w'.1[b]?=w.1[b]?):OrcPre w' g km cells v n m cs qs D E where
 blk:=(hw g hF.1).trans h.blk
 own:=qi h.own fun b hb=>hw b (hF.2.2.1 b hb)
 rows:=aK h.rows hs fun b hb _=>hw b (hF.2.2.2 b hb)
 map:=by
  obtain ⟨es,clock,h1,h2⟩:=h.map;exact ⟨es,clock,(hw km hF.2.1).trans h1,h2⟩
theorem zFb {w w3 w4:vw} {g km sm pm:Nat} {O:Ga} {F E:Nat -> Prop} {v v' vs:vx} {cs:List vx} {lab an N n eb:Nat} {l:List Nat}
  (OK:OrcOk (Wh O lab l an))
  (P:OrcPre w3 g km #[.bool O.ideal, .int vn O.st, .int vq O.dr,v, .map (vE km), .map (vE sm), .map (vE pm)] v O.qs.length (O.qs.length+1) cs O.qs ((Cu O.qs).put (Ml lab l) (.lit (.int vq O.qs.length))) E)
  (hF:F g /\ F km /\ (∀ b,v.ownBlock=vE b -> F b) /\ ∀ b,E b -> F b) (hX:v.ownBlock≠vE g /\ v.ownBlock≠vE km /\ ∀ b,E b -> b≠g /\ b≠km /\ v.ownBlock≠vE b) (hgk:g≠km) (ra:∀ b,F b -> b<N) (hN:N <= eb) (Lx:N <= w3.1.size) (hew:w.1.size <= eb)
  (ky:w3.ownsRow eb 22 1 vs n (Ia l)) (En:∀ x∈l,x<18446744073709551616)
  (xa:w4.ownsRow 0 95 3 v' (O.qs.length+1) (cs++[vd vn lab,vs,vd vn an])) (hg:w3.grownBy w4 v.ownBlock) (hb:v'.ownBlock=v.ownBlock \/ v'.ownBlock=vE w3.1.size)
  (M:Moved F F w w3) :
  ∃ F',OrcAt (w4.setCell ⟨g,3,vD⟩ v') g (Wh O lab l an) F' /\ Moved F F' w (w4.setCell ⟨g,3,vD⟩ v'):=by
 obtain ⟨fg,fkm,fv,fE⟩:=hF;obtain ⟨x1,x2,x3⟩:=hX;have Xa:w4.grownBy (w4.setCell ⟨g,3,vD⟩ v') (vE g):=Mf (p:=⟨g,3,vD⟩) (Vd w4 _) (.inl rfl) _;have kb4:=P.blk.grown hg (fun e=>x1 e.symm)
 have kb5:=kb4.set_ 3 v';have Jd:∀ b,vs.ownBlock=vE b -> eb <= b /\ b<w3.1.size:=fun b h=>ky.lt b h
 have Rv:∀ b,v'.ownBlock=vE b -> F b \/ b=w3.1.size:=fun b h=>by
  rcases hb with e | e
  ·exact .inl (fv b (by rw [<- e];exact h))
  ·rw [e] at h;exact .inr (db h).symm
 have hvg:v'.ownBlock≠vE g:=fun h=>by
  rcases hb with e | e
  ·exact x1 (by rw [<- e];exact h)
  ·rw [e] at h;have:=db h;have:=ra g fg;omega
 have hvk:v'.ownBlock≠vE km:=fun h=>by
  rcases hb with e | e
  ·exact x2 (by rw [<- e];exact h)
  ·rw [e] at h;have:=db h;have:=ra km fkm;omega
 have hvE:∀ b,E b -> v'.ownBlock≠vE b:=fun b hE h=>by
  rcases hb with e | e
  ·exact (x3 b hE).2.2 (by rw [<- e];exact h)
  ·rw [e] at h;have:=db h;have:=ra b (fE b hE);omega
 have hvN:∀ b,v.ownBlock=vE b -> b<N:=fun b h=>ra b (fv b h)
 have Pn:=qi xa fun b h=>Xa.block b (xa.lt b h).2 (fun e=>hvg (by rw [h,e]))
 have vs4:=qi ky fun b h=>hg.block b (Jd b h).2 (fun e=>by have:=hvN b e.symm;have:=Jd b h;omega)
 have vs5:=qi vs4 fun b h=>Xa.block b (vs4.lt b h).2 (fun e=>by have:=db e;have:=Jd b h;have:=ra g fg;omega)
 have kr5:=iI vs5 En;have rows4:=aK P.rows hg.size fun b hE hl=>hg.block b hl (fun e=>(x3 b hE).2.2 e.symm)
 have rows5:=aK rows4 Xa.size fun b hE hl=>Xa.block b hl (fun e=>(x3 b hE).1 (db e))
 have s4:=hg.size;have s5:=Xa.size;refine ⟨fun b=>F b \/ v'.ownBlock=vE b \/ vs.ownBlock=vE b,⟨v',cs++[vd vn lab,vs,vd vn an],km,sm,pm,fun b=>E b \/ vs.ownBlock=vE b,?_⟩,?_⟩
 ·refine ⟨OK,?_,?_,?_,?_,?_,fun e=>hgk e.symm,hvk,hvg, .inl fg,fun b h=>.inr (.inl h), .inl fkm,?_,?_⟩
  ·show Blk _ g _ #[.bool O.ideal,vd vn O.st,vd vq O.dr,v', .map (vE km), .map (vE sm), .map (vE pm)]
   simpa using kb5
  ·have:(Wh O lab l an).qs.length=O.qs.length+1:=by show (O.qs++[_]).length=_;simp
   rw [this];exact Pn
  ·exact zEJ (q:=⟨lab,l,an⟩) (zEK rows5 fun b h=>.inl h) (GL kr5 fun b h=>.inr h)
  ·have:(Wh O lab l an).qs=O.qs++[⟨lab,l,an⟩]:=r9 O lab l an
   rw [this,tO,Kf];obtain ⟨es,clock,h1,h2⟩:=P.map;refine ⟨es,clock,?_,h2⟩;have xu:km<w3.1.size:=by have:=ra km fkm;omega
   exact (Xa.block km (by omega) (fun e=>hgk (db e).symm)).trans ((hg.block km xu (fun e=>x2 e.symm)).trans h1)
  ·intro b h
   rcases h with h | h
   ·exact ⟨by have:=ra b (fE b h);omega,(x3 b h).1,(x3 b h).2.1,hvE b h⟩
   ·have h1:=Jd b h
    refine ⟨by omega,fun e=>by have:=ra g fg;omega,fun e=>by have:=ra km fkm;omega,fun e=>?_⟩
    rcases Rv b e with h2 | h2
    ·have:=ra b h2;omega
    ·omega
  ·intro b h
   rcases h with h | h
   ·exact .inl (fE b h)
   ·exact .inr (.inr h)
  ·intro b h
   rcases h with h | h | h
   ·have:=ra b h;omega
   ·have:=(xa.lt b h).2;omega
   ·have:=Jd b h;omega
 ·refine zCW (F':=F) ((M.trans (RL (F:=F) hg fun b h=>fv b h)).trans (RL (F:=F) Xa fun b h=>by rw [<- db h];exact fg)) fun b h=>?_
  have hs:=M.size;rcases h with h | h | h
  ·exact .inl h
  ·rcases Rv b h with h | h
   ·exact .inl h
   ·exact .inr (by omega)
  ·exact .inr (by have:=Jd b h;omega)
where
 r9 (O:Ga) (lab:Nat) (el:List Nat) (a:Nat):(Wh O lab el a).qs=O.qs++[⟨lab,el,a⟩]:=by simp only [Wh]
theorem Q5 {w:vw} {g:Nat} {O:Ga} {F:Nat -> Prop} {v:vx} {cs:List vx} {km sm pm:Nat} {E:Nat -> Prop} (h:OrcIn w g O F v cs km sm pm E) (lab:Nat) (l:List Nat) (an:Nat) (A:Option vy) (n c:Nat) {K:Nat -> Prop}
  (hl:Me K w (ve A n c) l) (hK:∀ b,K b -> ¬F b) (bh:lab<18446744073709551616) (Li:Rc l=true) (han:an<Za) (hlen:l.length <= 1000000) (hn:O.qs.length <= 1000000) (zJ:xd O.qs lab l=vD) (eO:O.ideal=false -> an=Xn lab l) :
  vB prog 225 #[.pointer (vE ⟨g,0,vD⟩), .string (S (qg (lab :: l))),vd vn lab,ve A n c,vd vn an] w fun e w'=>e=vl (.tuple #[]) /\ ∃ F',OrcAt w' g (Wh O lab l an) F' /\ Moved F F' w w':=by
 have OK1:=zH (zDw h.ok bh Li han hlen zJ eO);have Ot:=zH (qT lab l hlen);have Fg:=zH hlen;have HEL:=zH Li;have PH:l.length=n:=by obtain ⟨A',c',e,-⟩:=cA hl;injection e with _ e2 _;exact e2.symm
 have HRN:=zH PH;have HK:=zH hK;clear bh Li zJ eO hK hlen PH;obtain ⟨hv⟩:Nonempty (∃ B d,v=ve B O.qs.length d):=by
  obtain ⟨B,d,e,-⟩:=ud h.own;exact ⟨B,d,e⟩
 obtain ⟨B,d,rfl⟩:=hv;have kb:=h.blk;have hc:=kb.cell;have hmp:=fun w=>run_eql_map_nil (P:=prog) w 117 9 3 (vE km) underlying117
 have H:=zH h;have hglt:g<w.1.size:=kb.lt;have hgk:g≠km:=fun e=>h.kmg e.symm
 have gn:(O.qs.length:Int) <= 1000000:=by omega
 obtain ⟨nq,mC⟩:=zEX (O.qs.length);rw [<- mC] at hc gn;have Ci:=zH mC;clear h mC kb hn;go_enter func225,ntmps225
 go_wp2_with fail
 refine Cd (om km) [10] [0,1,2,3,4,5,6,7,8,9,10] (by kernel_rfl) (by kernel_rfl) ?_
 refine De (Je km) ?_;intro Wc Ha ea;have H1:=zH (show OrcIn Wc g O F (ve B O.qs.length d) cs km sm pm E by rw [Ha.out];exact H.out.drew)
 have Jl:Me K Wc (ve A n c) l:=by rw [Ha.out];exact Vv hl zR fun _ _ _=>rfl
 have M0:Moved F F w Wc:=by rw [Ha.out];exact Zv Moved.refl
 clear Ha H hl;obtain ⟨w1,td,Gn,Oh⟩:=H1.out.map.update vT underlying117 (by have:=Ci.out;simp only [maxLen];omega) Ot.out (val:=.int vq nq) (plainElem_int nx (by simp [Lit.wf,IntKind.min,IntKind.max,IntKind.signed,IntKind.bits];omega))
 refine Zn ?_;refine Ye (Je km) rfl rfl rfl ?_;go_simp;refine ⟨Oh,?_⟩
 refine zPU ?_
 refine Qc ?_;have kb1:Blk w1 g 121 _:=H1.out.blk.grown Oh (fun e=>hgk (db e))
 have yy:=qi H1.out.own fun b hb=>Oh.block b (H1.out.own.lt b hb).2 (fun e=>H1.out.vkm (by rw [hb,e]))
 have D6:=aK H1.out.rows Oh.size fun b hb hl=>Oh.block b hl (fun e=>(H1.out.el b hb).2.2.1 (db e))
 have Kv:Me K w1 (ve A n c) l:=Vv Jl Oh.size fun b hb hl=>Oh.block b hl (fun e=>HK.out b hb (by rw [db e];exact H1.out.fkm))
 have M1:=M0.trans (RL (F:=F) Oh (fun b e=>by rw [<- db e];exact H1.out.fkm))
 have lk1:km<w1.1.size:=Gn.lt;have Ad:=kb1.cell;have AH:=kb1.frozen;have lg1:=kb1.lt;have P1:=zH (OrcPre.mk kb1 yy D6 Gn);have HF:Hid (F g /\ F km /\ (∀ b,(ve B O.qs.length d).ownBlock=vE b -> F b) /\ ∀ b,E b -> F b):=⟨H1.out.fg,H1.out.fkm,H1.out.fv,H1.out.fE⟩;have HX:Hid ((ve B O.qs.length d).ownBlock≠vE g /\ (ve B O.qs.length d).ownBlock≠vE km /\ ∀ b,E b -> b≠g /\ b≠km /\ (ve B O.qs.length d).ownBlock≠vE b):=⟨H1.out.vg,H1.out.vkm,fun b hb=>⟨(H1.out.el b hb).2.1,(H1.out.el b hb).2.2.1,(H1.out.el b hb).2.2.2⟩⟩
 have Wb:=zH (show ∀ b,F b -> b<w1.1.size from fun b hb=>Sd (H1.out.lt b hb) Oh.size)
 obtain ⟨VF,hVF⟩:∃ VF:Nat -> Prop,∀ b,VF b↔(ve B O.qs.length d).ownBlock=vE b:=⟨_,fun _=>Iff.rfl⟩
 have nVg:¬VF g:=fun e=>HX.out.1 ((hVF g).1 e)
 have HVF:=zH hVF;rw [<- Ci.out] at Ad;clear hVF kb1 yy D6 Gn hc td Oh Jl M0 ea hglt hmp H1 Ot;clear Wc;go_wp2_with fail
 obtain ⟨N,hN⟩:=zEX (w1.1.size);rw [<- hN] at lg1 lk1;have HN:=zH hN;clear hN;refine JA (zi VF N) [7,10,11,12,14] [14] [0,1,2,3,4,5,6,8,7,9,10,11,12,13,14] (by kernel_rfl) (by kernel_rfl) ?_
 refine LA (Jc VF N) ?_;intro Wc Ha ea;have P2:=zH (P1.out.keep (w':=w1.drew) (F:=F) HF.out zR fun _ _=>rfl)
 rw [<- Ha.out] at P2;have hl3:Me K Wc (ve A n c) l:=by rw [Ha.out];exact Vv Kv zR fun _ _ _=>rfl
 have M2:Moved F F w Wc:=by rw [Ha.out];exact Zv M1
 have jc:N <= Wc.1.size:=by rw [Ha.out,HN.out];exact zR
 have hbN:N <= Wc.1.size:=jc;have Ja:w.1.size <= Wc.1.size:=M2.size;have HLc:Hid (∀ b,F b -> b<N):=by rw [HN.out];exact Wb.out
 clear Ha P1 Kv M1 Wb;refine DV ?_;refine Gt (Jc VF N) rfl rfl rfl (fun _=>by go_simp <;> rfl) ((zAE A n c l _ (Sj hl3) (by have:=Fg.out;omega)).mono ?_)
 rintro e w2 ⟨vs,rfl,ky,Aa⟩;refine ⟨_,rfl,fun _=>Mj Aa jc,?_⟩
 replace ea:=(Jc VF N).trans _ _ _ ea (Mj Aa jc);refine zPU ?_;have P3:=zH (P2.out.keep (F:=F) HF.out Aa.size fun b hb=>Aa.block b (by have:=HLc.out b hb;omega))
 have M3:=M2.trans (zd (F:=F) Aa);have Rk:N <= w2.1.size:=by have:=Aa.size;omega
 obtain ⟨Bs,ds,rfl,-,-,-,yn⟩:=ud ky;clear P2 M2 Aa jc hl3 ea Ad;have ea:=(Jc VF N).refl w2;refine DV ?_;refine Ui (Jc VF N) rfl rfl rfl ?_;go_simp;refine ⟨fun _=>Mj ((za _ _).alloc zR _) Rk,?_⟩
 have ja:=(za w2.1.size w2).alloc zR (.cells #[vd vn lab,ve Bs n ds,vd vn an] 95);have Ma:=jM w2 (vd vn lab) (ve Bs n ds) (vd vn an) 95;have P4:=zH (P3.out.keep (F:=F) HF.out ja.size fun b hb=>ja.block b (by have:=HLc.out b hb;omega))
 have bT:=Xb ky ja zR;have M4:=M3.trans (zd (F:=F) ja);have Lx:N <= (w2.alloc (.cells #[vd vn lab,ve Bs n ds,vd vn an] 95)).1.size:=jb Rk ja.size;have Vj:=P4.out.own;rw [<- Ci.out] at Vj
 refine zPU ?_
 generalize w2.alloc _=w3 at Ma P4 bT M4 Lx Vj |-;generalize w2.1.size=g2 at Ma |-;clear P3 M3 Rk ja ky ea;have ea:=(Jc VF N).refl w3;refine Ui (Jc VF N) rfl rfl rfl ?_;refine Ew _ _ rfl gL rfl Vj rfl Ma (by intro u hu;simp at hu;rcases hu with rfl | rfl | rfl <;> rfl) (by omega) (Lb _) ?_
 intro v' w4 Kb Va Zb;refine ⟨fun _=>zBJ Va Lx (fun b hb=>(HVF.out b).2 (by rw [<- Ci.out];exact hb)),?_⟩
 refine zPU ?_
 have CE:=(P4.out.blk.grown Va (fun e=>by rw [Ci.out] at e;exact HX.out.1 e.symm)).frozen
 have hcg4:=(P4.out.blk.grown Va (fun e=>by rw [Ci.out] at e;exact HX.out.1 e.symm)).cell
 obtain ⟨Av,cv,hv',-⟩:=ud Kb;subst hv';have Rg:=zH (zFb OK1.out (by have:=P4.out;rw [Ci.out] at this;exact this) HF.out HX.out hgk HLc.out (eb:=Wc.1.size) hbN Lx Ja bT (gJ HEL.out) (by have:=Kb;rw [Ci.out] at this;exact this) (by have:=Va;rw [Ci.out] at this;exact this) (by rw [<- Ci.out];exact Zb) M4)
 rw [<- Ci.out] at Rg;clear Kb Va Zb Ma P4 Vj bT M4 ea Lx;have ea:=(Jc VF N).refl w4;refine Ui (Jc VF N) rfl rfl rfl ?_;go_simp
 try refine And.intro (fun _=>(Jc VF N).refl _) ?_
 refine zPU ?_
 refine DV ?_;refine Ui (Jc VF N) rfl rfl rfl ?_;go_simp;refine ⟨fun h=>Bool.noConfusion h,?_⟩
 refine zPU ?_
 refine KA ?_;go_wp2
 go_end0
 exact ⟨rfl,Rg.out⟩
theorem idx_h0 {w:vw} {a b c:vx}:(Instr.index 298 (vf #[a,b,c]) (vd vq 0)).run prog w= .ok a w :=
 sM (i:=0) underlying298 QQ TU (by omega) rfl
theorem dU (label:Nat) (A:Option vy) (n c:Nat) (l:List Nat) (w:vw) (hl:RWd w [ve A n c] l) (Ta:0<l.length) (hlen:l.length <= 1000000) :
  vB prog 205 #[vd vn 18446744069414584321,vd vn label,ve A n c] w fun e w'=>e=vl (vd vn (Xn label l:Int)) /\ vA w.1.size w w':=by
 have HV:=zH (fun w=>Eo Za w VL)
 have My:=zH (fun w' (hb:vA w.1.size w w')=>Z2 Za label A n c l w' VL (Bb hb hl) Ta hlen)
 have HE:=zH (show Xn label l=(um Za label l).a from rfl)
 have hidx:=fun w a b c=>idx_h0 (w:=w) (a:=a) (b:=b) (c:=c)
 clear hl Ta hlen;generalize Xn label l=z at *;generalize um Za label l=s at *;unfold fv Za at *;go_enter func205,ntmps205
 go_wp2_with fail
 refine (HV.out _).mono ?_;rintro e w1 ⟨rfl,Ca⟩;go_wp2_with fail
 refine (My.out _ Ca).mono ?_;rintro e w2 ⟨rfl,Aa⟩;have da:=ma Ca Aa;have ev:s.val=vf #[vd vn s.a,vd vn s.b,vd vn s.c]:=rfl;rw [ev];go_wp2;go_ret
 exact ⟨by rw [HE.out];rfl,da⟩
theorem eu (O:Ga) (lab:Nat) (el:List Nat) (a:Nat):(Wh O lab el a).qs=O.qs++[⟨lab,el,a⟩]:=by simp only [Wh]
theorem vX (i:Bool) (s d:Nat) (q:List Qn):(Jj ⟨i,s,d,q⟩).qs=q:=rfl
theorem zz (O:Ga):(Jj O).qs=O.qs:=by
 cases O with
 | mk i s d q=>exact vX i s d q
def jk (O:Ga) (lab:Nat) (el:List Nat) (a:Nat):Prop:=Rc el=true /\ xd O.qs lab el=vE a
theorem RX {qs:List Qn} {q:Qn} {lab:Nat} {el:List Nat} {a:Nat} (h:xd qs lab el=vE a):xd (qs++[q]) lab el=vE a:=by
 unfold xd at h |-;rw [List.find?_append];cases hc:qs.find? (Tn lab el) with
 | none=>rw [hc] at h;cases h
 | some x=>rw [hc] at h;exact h
theorem SX {qs:List Qn} {lab:Nat} {el:List Nat} {a:Nat} (h:xd qs lab el=vD):xd (qs++[⟨lab,el,a⟩]) lab el=vE a:=by
 unfold xd at h |-;rw [Option.map_eq_none_iff] at h;rw [List.find?_append,h];simp [Tn]
theorem IW {O:Ga} {lab:Nat} {el:List Nat} {a:Nat} (h:jk O lab el a):Dc O lab el=O /\ Pd O lab el=a /\ ir O lab el=vE a:=by
 obtain ⟨h1,h2⟩:=h;simp [Dc,Pd,ir,h1,h2]
theorem kY (O:Ga) (lab:Nat) {el:List Nat} (he:Rc el=true):jk (Dc O lab el) lab el (Pd O lab el):=by
 refine ⟨he,?_⟩;unfold Dc Pd;rw [Qa he,Qa he];cases hf:xd O.qs lab el with
 | some a=>exact hf
 | none =>
  cases O.ideal
  ·simp only [Bool.false_eq_true,if_false]
   exact SX hf
  ·simp only [if_true]
   rw [eu,zz];exact SX hf
theorem JW {O:Ga} {lab:Nat} {el:List Nat} {a:Nat} (h:jk O lab el a) (Ql:Nat) (el':List Nat):jk (Dc O Ql el') lab el a:=by
 refine ⟨h.1,?_⟩;unfold Dc;split
 ·split
  ·exact h.2
  ·split
   ·rw [eu,zz];exact RX h.2
   ·rw [eu];exact RX h.2
 ·exact h.2
theorem kR (z:Nat):dMix z<Za:=ic _ (by decide)
def Wl (O:Ga):Prop:=∀ q∈O.qs,q.ans<Za
theorem OrcOk.ans {O:Ga} (h:OrcOk O):Wl O:=fun q hq=>(h.qs q hq).ans
theorem Iz {O:Ga} (h:Wl O) (lab:Nat) (el:List Nat):Pd O lab el<Za:=by
 unfold Pd;split
 ·split
  ·rename_i a ha
   unfold xd at ha;cases hc:O.qs.find? (Tn lab el) with
   | none=>rw [hc] at ha;cases ha
   | some x =>
    rw [hc] at ha
    injection ha with ha
    rw [<- ha];exact h x (List.mem_of_find?_eq_some hc)
  ·split
   ·exact kR _
   ·exact xM _ _
 ·decide
theorem TN {O:Ga} (h:Wl O) (lab:Nat) (el:List Nat):Wl (Dc O lab el):=by
 unfold Dc;split
 ·split
  ·exact h
  ·split
   ·intro q hq
    rw [eu,zz] at hq;rcases uq.1 hq with hq | hq
    ·exact h q hq
    ·rw [zp.1 hq];exact kR _
   ·intro q hq
    rw [eu] at hq;rcases uq.1 hq with hq | hq
    ·exact h q hq
    ·rw [zp.1 hq];exact xM lab el
 ·exact h
def Pb (O:Ga) (lab:Nat) (qs:List (List Nat)):Ga:=qs.foldl (fun o q=>Dc o lab q) O
def Tc (O:Ga) (lab:Nat) (qs:List (List Nat)):List Nat:=(List.range qs.length).map fun i=>Pd (Pb O lab (qs.take i)) lab (qs.getD i [])
theorem UQ (O:Ga) (lab:Nat) (qs:List (List Nat)) (i:Nat) (h:i<qs.length):Pb O lab (qs.take (i+1))=Dc (Pb O lab (qs.take i)) lab (qs.getD i []):=by
 unfold Pb;rw [iz h,List.foldl_append,Jb,oc h]
 rfl
theorem zW (O:Ga) (lab:Nat) (qs:List (List Nat)):Pb O lab (qs.take qs.length)=Pb O lab qs:=by rw [Cp]
theorem Xv (O:Ga) (lab:Nat) (qs:List (List Nat)):(Tc O lab qs).length=qs.length:=by simp [Tc]
theorem VQ (O:Ga) (lab:Nat) (qs:List (List Nat)) (i:Nat) (h:i<qs.length):(Tc O lab qs).getD i 0=Pd (Pb O lab (qs.take i)) lab (qs.getD i []):=by
 simp [Tc,Jb,h]
theorem WQ {O:Ga} {lab:Nat} {el:List Nat} {a:Nat} (h:jk O lab el a) (Ql:Nat):∀ qs:List (List Nat),jk (Pb O Ql qs) lab el a:=by
 intro qs;unfold Pb
 induction qs generalizing O with
 | nil=>exact h
 | cons q r ih=>exact ih (JW h Ql q)
theorem Y9 (O:Ga) (lab:Nat) (a b:List (List Nat)):Pb O lab (a++b)=Pb (Pb O lab a) lab b:=by simp [Pb]
theorem BW (O:Ga) (lab:Nat) (qs:List (List Nat)) (hq:∀ q∈qs,Rc q=true) (i:Nat) (h:i<qs.length):jk (Pb O lab qs) lab (qs.getD i []) ((Tc O lab qs).getD i 0):=by
 rw [VQ O lab qs i h];have e:qs=qs.take (i+1)++qs.drop (i+1):=(List.take_append_drop _ _).symm;have hm:qs.getD i []∈qs:=by rw [Jb,oc h];exact wg h
 have h1:=kY (Pb O lab (qs.take i)) lab (hq _ hm);rw [<- UQ O lab qs i h] at h1;have h2:=WQ h1 lab (qs.drop (i+1));rw [<- Y9,<- e] at h2;exact h2
theorem bJ {O:Ga} (h:Wl O) (lab:Nat):∀ qs:List (List Nat),Wl (Pb O lab qs):=by
 intro qs;unfold Pb
 induction qs generalizing O with
 | nil=>exact h
 | cons q r ih=>exact ih (TN h lab q)
theorem cJ {O:Ga} (h:Wl O) (lab:Nat) (qs:List (List Nat)):∀ x∈Tc O lab qs,x<Za:=fun x hx=>by
 simp only [Tc,ld] at hx;obtain ⟨k,_,rfl⟩:=hx;exact Iz (bJ h _ _) _ _
def Vc (l:List Nat):List (List Nat):=(List.range (l.length / 2)).map fun i=>[l.getD (2*i) 0,l.getD (2*i+1) 0]
theorem GJ (l:List Nat):(Vc l).length=l.length / 2:=by simp [Vc]
theorem G4 (l:List Nat) (i:Nat) (h:i<l.length / 2):(Vc l).getD i []=[l.getD (2*i) 0,l.getD (2*i+1) 0]:=by simp [Vc,Jb,h]
def ff:Nat -> Ga -> List Nat -> List (List Nat)
 | 0,_,l=>[l]
 | d+1,O,l=>l :: ff d (Pb O 17 (Vc l)) (Tc O 17 (Vc l))
def iq:Nat -> Ga -> List Nat -> Ga
 | 0,O,_=>O
 | d+1,O,l=>iq d (Pb O 17 (Vc l)) (Tc O 17 (Vc l))
theorem XQ {lab:Nat} {el:List Nat} {a:Nat}:∀ (d:Nat) {O:Ga} (l:List Nat),jk O lab el a -> jk (iq d O l) lab el a
 | 0,_,_,h=>h
 | d+1,_,_,h=>XQ d _ (WQ h 17 _)
def Vo (ls:List (List Nat)):Nat:=(ls.getLastD []).getD 0 0
def lh:List (List Nat) -> Nat -> List Nat
 | [],_=>[]
 | [_],_=>[]
 | l :: m :: r,i=>l.getD (i ^^^ 1) 0 :: lh (m :: r) (i / 2)
def qn (O:Ga) (lab:Nat) (el:List Nat):Option Nat:=if O.ideal then ir O lab el else vE (Pd O lab el)
def Mg (O:Ga) (lab:Nat) (el:List Nat):Ga:=if O.ideal then O else Dc O lab el
def Yo:List Nat -> Ga -> Nat -> List Nat -> Nat -> Option Nat
 | [],O,lab,el,_=>qn O lab el
 | p :: r,O,lab,el,i=>(qn O lab el).bind fun a=>Yo r (Mg O lab el) 17 (if i%2=1 then [p,a] else [a,p]) (i / 2)
def Rm:List Nat -> Ga -> Nat -> List Nat -> Nat -> Ga
 | [],O,lab,el,_=>Mg O lab el
 | p :: r,O,lab,el,i=>match qn O lab el with | some a=>Rm r (Mg O lab el) 17 (if i%2=1 then [p,a] else [a,p]) (i / 2) | none=>Mg O lab el
theorem FW {O:Ga} {lab:Nat} {el:List Nat} {a:Nat} (h:jk O lab el a):qn O lab el=vE a /\ Mg O lab el=O:=by
 obtain ⟨h1,h2,h3⟩:=IW h;unfold qn Mg;cases O.ideal
 ·simp [h1,h2]
 ·simp [h3]
theorem S8 (j:Nat):2*j ^^^ 1=2*j+1:=by
 have:(2*j+1) ^^^ 1=2*j:=by
  apply Nat.eq_of_testBit_eq
  intro i;rcases i with _ | i
  ·simp [Nat.testBit_zero]
  ·rw [Nat.testBit_xor,Nat.testBit_succ,Nat.testBit_succ,Nat.testBit_succ,show (2*j+1) / 2=j by omega,show 2*j / 2=j by omega]
   simp
 rw [<- this,Nat.xor_assoc,Nat.xor_self,Nat.xor_zero,this]
theorem zGS (j:Nat):(2*j+1) ^^^ 1=2*j:=by rw [<- S8 j,Nat.xor_assoc,Nat.xor_self,Nat.xor_zero]
theorem z8 {T:Ga}:∀ (d:Nat) (O:Ga) (l:List Nat) (lab:Nat) (el:List Nat) (i:Nat),l.length=2^d -> (∀ x∈l,x<Za) -> (∀ lab el a,jk (iq d O l) lab el a -> jk T lab el a) -> Wl O -> i<l.length ->
  jk T lab el (l.getD i 0) -> Yo (lh (ff d O l) i) T lab el i=vE (Vo (ff d O l)) /\ Rm (lh (ff d O l) i) T lab el i=T
 | 0,O,l,lab,el,i,hl,_,_,_,hi,h=>by
  have:i=0:=by simp at hl;omega
  subst this;obtain ⟨h1,h2⟩:=FW h;exact ⟨by simp [ff,lh,Yo,h1,Vo],by simp [ff,lh,Rm,h2]⟩
 | d+1,O,l,lab,el,i,hl,ra,hT,hV,hi,h=>by
  have e2:l.length / 2=2^d:=by rw [hl,Ig];omega
  have Pe:(Tc O 17 (Vc l)).length=2^d:=by rw [Xv,GJ,e2]
  have yH:∀ k,l.getD k 0<Za:=fun k=>by
   rw [Jb];rcases Hg k l.length with h1 | h1
   ·rw [oc h1];exact ra _ (wg h1)
   ·rw [Xr h1];show 0<Za;decide
  have hq:∀ q∈Vc l,Rc q=true:=by
   intro q hq;simp only [Vc,ld] at hq;obtain ⟨k,_,rfl⟩:=hq;simp only [Rc,List.all_cons,List.all_nil,Bool.and_true,Cc,Bo];exact ⟨yH _,yH _⟩
  have hj:i / 2<l.length / 2:=by
   rw [e2];rw [hl,Ig] at hi;omega
  have ha:=BW O 17 (Vc l) hq (i / 2) (by rw [GJ];exact hj)
  rw [G4 l _ hj] at ha;have ha2:=hT _ _ _ (XQ d (Tc O 17 (Vc l)) ha);have ih:=z8 d (Pb O 17 (Vc l)) (Tc O 17 (Vc l)) 17 [l.getD (2*(i / 2)) 0,l.getD (2*(i / 2)+1) 0] (i / 2) Pe (cJ hV 17 _) hT (bJ hV 17 _) (by rw [Pe,<- e2];exact hj) ha2
  obtain ⟨h1,h2⟩:=FW h;have hcons:∃ m r,ff d (Pb O 17 (Vc l)) (Tc O 17 (Vc l))=m :: r:=by cases d <;> exact ⟨_,_,rfl⟩
  obtain ⟨m,r,hmr⟩:=hcons;have sC:Vo (ff (d+1) O l)=Vo (m :: r):=by simp [ff,Vo,hmr]
  have hpath:lh (ff (d+1) O l) i=l.getD (i ^^^ 1) 0 :: lh (m :: r) (i / 2):=by simp [ff,hmr,lh]
  rw [hmr] at ih;have Li:(if i%2=1 then [l.getD (i ^^^ 1) 0,l.getD i 0] else [l.getD i 0,l.getD (i ^^^ 1) 0])=[l.getD (2*(i / 2)) 0,l.getD (2*(i / 2)+1) 0]:=by
   by_cases h3:i%2=1
   ·have e:i=2*(i / 2)+1:=by omega
    have e3:i ^^^ 1=2*(i / 2):=by
     have:=zGS (i / 2);rw [show 2*(i / 2)+1=i by omega] at this
     exact this
    rw [Qa h3,e3,<- e]
   ·have e:i=2*(i / 2):=by omega
    have e3:i ^^^ 1=2*(i / 2)+1:=by
     have:=S8 (i / 2);rw [show 2*(i / 2)=i by omega] at this
     rw [this];omega
    rw [La h3,e3,<- e]
  rw [sC,hpath];refine ⟨?_,?_⟩
  ·simp only [Yo,h1,h2,Option.bind_some,Li]
   exact ih.1
  ·simp only [Rm,h1,h2,Li]
   exact ih.2
theorem zBX {O:Ga} {lab:Nat} {l:List Nat} (h:Rc l=false):Pd O lab l=0 /\ Dc O lab l=O:=by
 unfold Pd Dc;simp only [h,Bool.false_eq_true,if_false,and_self]
theorem zBZ {O:Ga} {lab a:Nat} {l:List Nat} (h:Rc l=true) (hf:xd O.qs lab l=vE a):Pd O lab l=a /\ Dc O lab l=O:=by
 unfold Pd Dc;simp only [h,hf,if_true,and_self]
theorem zBW {O:Ga} {lab:Nat} {l:List Nat} (h:Rc l=true) (hf:xd O.qs lab l=vD) (hi:O.ideal=true):Pd O lab l=Cq O /\ Dc O lab l=Wh (Jj O) lab l (Cq O):=by
 unfold Pd Dc;simp only [h,hf,hi,if_true,and_self]
theorem zBY {O:Ga} {lab:Nat} {l:List Nat} (h:Rc l=true) (hf:xd O.qs lab l=vD) (hi:O.ideal=false):Pd O lab l=Xn lab l /\ Dc O lab l=Wh O lab l (Xn lab l):=by
 unfold Pd Dc;simp only [h,hf,hi,if_true,Bool.false_eq_true,if_false,and_self]
theorem T8 (w:vw):(zeroValue 3).run prog w= .ok (vd vq 0) w:=by kernel_rfl
theorem DO {w:vw} {g:Nat} {O:Ga} {F:Nat -> Prop} {v:vx} {cs:List vx} {km sm pm:Nat} {E:Nat -> Prop} (h:OrcIn w g O F v cs km sm pm E) {lab:Nat} {l:List Nat} (bh:lab<18446744073709551616) (hl:Rc l=true) (hlen:l.length <= 1000000) :
  (∃ c:Int,(Instr.lookup 117 (.map (vE km)) (.string (S (qg (lab :: l)))) true).run prog w= .ok (.tuple #[vd vq c, .bool (xd O.qs lab l).isSome]) w /\
   ∀ a,xd O.qs lab l=vE a -> ∃ (i:Nat) (gq:Nat) (d:Nat),c=(i:Int) /\ i<O.qs.length /\ v=ve (vE ⟨gq,0,vD⟩) O.qs.length d /\ w.cell? ⟨gq,i*3+2,vD⟩=vE (vd vn a) /\ gq<w.1.size):=by
 have hk:=qT lab l hlen;obtain ⟨x,ps,td,hx⟩:=h.map.look_ok vT underlying117 (T8 w) (plainElem_int nx (by decide)) hk
 obtain ⟨c,rfl,hc,-⟩:=plainElem_int_inv nx hx;rw [RY bh (gJ hl) h.ok.qs] at td;refine ⟨c,td,fun a ha=>?_⟩
 obtain ⟨i,q,h1,h2,h3⟩:=zCn bh (gJ hl) h.ok.qs h.ok.apart a ha;have hi:i<O.qs.length:=by
  rcases Hg i O.qs.length with e | e
  ·exact e
  ·rw [Xr e] at h1;cases h1
 rw [h3] at hc;have Jz:c=(i:Int):=by
  have:=congrArg Prod.fst hc;simp at this
  exact this.symm
 obtain ⟨h4,h5,-⟩:=h.rows.2 i q h1;rcases h.own.2 with ⟨rfl,h0⟩ | ⟨gq,cap,cur,hv,-,hh,-⟩
 ·omega
 ·refine ⟨i,gq,cap,Jz,hi,hv,?_,(Pu.1 hh).1⟩
  have:=h.own.cells (g:=gq) (by rw [hv];rfl) (i*3+2) _ h5
  rw [h2] at this
  simpa [Addr.add] using this
def litI (d:DataW Unit):Int:=match d with | .lit (.int _ c)=>c | _=>0
def IJ (O:Ga) (lab:Nat) (l:List Nat):Int:=litI ((Cu O.qs).atKey (Ml lab l) (.lit (.int vq 0)))
theorem qZ {w:vw} {g:Nat} {O:Ga} {F:Nat -> Prop} {v:vx} {cs:List vx} {km sm pm:Nat} {E:Nat -> Prop} (h:OrcIn w g O F v cs km sm pm E) {lab:Nat} {l:List Nat} (bh:lab<18446744073709551616) (hl:Rc l=true) (hlen:l.length <= 1000000) :
  (Instr.lookup 117 (.map (vE km)) (.string (S (qg (lab :: l)))) true).run prog w= .ok (.tuple #[vd vq (IJ O lab l), .bool (xd O.qs lab l).isSome]) w:=by
 have hk:=qT lab l hlen;obtain ⟨x,ps,td,hx⟩:=h.map.look_ok vT underlying117 (T8 w) (plainElem_int nx (by decide)) hk
 obtain ⟨c,rfl,hc,-⟩:=plainElem_int_inv nx hx;rw [RY bh (gJ hl) h.ok.qs] at td;have:IJ O lab l=c:=by
  unfold IJ;rw [show (Cu O.qs).atKey (Ml lab l) (.lit (.int vq 0))= .lit (.int vq c) from congrArg Prod.fst hc]
  rfl
 rw [this];exact td
theorem zCC {w:vw} {g:Nat} {O:Ga} {F:Nat -> Prop} {v:vx} {cs:List vx} {km sm pm:Nat} {E:Nat -> Prop} (h:OrcIn w g O F v cs km sm pm E) {lab:Nat} {l:List Nat} (bh:lab<18446744073709551616) (hl:Rc l=true) (hlen:l.length <= 1000000) :
  ∀ a,xd O.qs lab l=vE a -> ∃ (i:Nat) (gq:Nat) (d:Nat),IJ O lab l=(i:Int) /\ i<O.qs.length /\ v=ve (vE ⟨gq,0,vD⟩) O.qs.length d /\ w.cell? ⟨gq,i*3+2,vD⟩=vE (vd vn a) /\ gq<w.1.size:=fun a ha=>by
 obtain ⟨c,td,hf⟩:=DO h bh hl hlen;obtain ⟨i,gq,d,h1,h2⟩:=hf a ha;refine ⟨i,gq,d,?_,h2⟩;have:=qZ h bh hl hlen;rw [td] at this;simp at this
 rw [<- this,h1]
theorem zEh {O:Ga} {lab:Nat} {l:List Nat} (h:Rc l=false):ir O lab l=vD:=by
 unfold ir;simp only [h,Bool.false_eq_true,if_false]
theorem zEj {O:Ga} {lab a:Nat} {l:List Nat} (h:Rc l=true) (hf:xd O.qs lab l=vE a):ir O lab l=vE a:=by
 unfold ir;simp only [h,hf,if_true]
theorem zEg {O:Ga} {lab:Nat} {l:List Nat} (h:Rc l=true) (hf:xd O.qs lab l=vD) (hi:O.ideal=true):ir O lab l=vD:=by
 unfold ir;simp only [h,hf,hi,if_true]
theorem zEi {O:Ga} {lab:Nat} {l:List Nat} (h:Rc l=true) (hf:xd O.qs lab l=vD) (hi:O.ideal=false):ir O lab l=vE (Xn lab l):=by
 unfold ir;simp only [h,hf,hi,if_true,Bool.false_eq_true,if_false]
theorem uX (O:Ga):(Jj O).ideal=O.ideal:=by
 cases O with
 | mk i s d q=>exact zA0 i s d q
where
 zA0 (i:Bool) (s d:Nat) (q:List Qn):(Jj ⟨i,s,d,q⟩).ideal=i:=rfl
theorem qL {w:vw} {g:Nat} {O:Ga} {F:Nat -> Prop} (h:OrcAt w g O F) (lab:Nat) (l:List Nat) (A:Option vy) (n c:Nat) {K:Nat -> Prop} (hl:Me K w (ve A n c) l) (hK:∀ b,K b -> ¬F b)
  (bh:lab<18446744073709551616) (hlen:l.length <= 1000000) (Ta:0<l.length \/ O.ideal=true) (hn:O.qs.length <= 1000000) (hd:O.dr <= 1000000) :
  vB prog 137 #[.pointer (vE ⟨g,0,vD⟩),vd vn lab,ve A n c] w fun e w'=>e=vl (vd vn (Pd O lab l:Int)) /\ ∃ F',OrcAt w' g (Dc O lab l) F' /\ Moved F F' w w':=by
 have Mt:=zH (G0 A n c l w (Sj hl));obtain ⟨v,cs,km,sm,pm,E,Kc⟩:=h;cases he:Rc l
 ·rw [he] at Mt
  obtain ⟨e1,e2⟩:=zBX (O:=O) (lab:=lab) he;rw [e1,e2];have Rg:=zH (show ∃ F',OrcAt w g O F' /\ Moved F F' w w from ⟨F,⟨v,cs,km,sm,pm,E,Kc⟩,Moved.refl⟩)
  clear hl hK Ta hn hd Kc he e1 e2;go_enter func137,ntmps137
  go_wp2_with fail
  refine Mt.out.mono ?_;rintro e w1 ⟨rfl,rfl⟩;go_wp2_with fail
  go_ret
  exact ⟨rfl,Rg.out⟩
 ·rw [he] at Mt
  have HE:=zH he;have HI:=zH Kc;have HL:=zH hl;have HK:=zH hK;have Fg:=zH hlen;have HN:=zH hn;have yJ:=zH bh;have Ot:=zH (fun w1 (k:Blk w1 w.1.size 22 #[vd vn lab]) (hb:vA w.1.size w w1)=>show vB prog 204 #[ve A n c,ve (vE ⟨w.1.size,0,vD⟩) 1 1] w1 fun e w'=>e=vl (.string (S (qg (lab :: l)))) /\ vA w1.1.size w1 w' from NY A (vE ⟨w.1.size,0,vD⟩) n c 1 1 l [lab] w1 (Bb hb (Sj hl)) (NC (l:=[lab]) k (by simp;exact bh) (by simp [maxLen])) hlen (by simp))
  have se:=Blk.new w 22 #[vd vn lab];have da:=(za w.1.size w).alloc zR (.cells #[vd vn lab] 22);clear he hl hK Kc hlen hn;cases hf:xd O.qs lab l with
  | some a =>
   obtain ⟨e1,e2⟩:=zBZ (O:=O) (lab:=lab) HE.out hf;rw [e1,e2];have HF:=zH hf;clear e1 e2 hf Ta hd;go_enter func137,ntmps137
   go_wp2_with fail
   refine Mt.out.mono ?_;rintro e w1 ⟨rfl,rfl⟩;go_wp2_with fail
   generalize w.alloc _=w1 at se da |-;refine (Ot.out w1 se da).mono ?_;rintro e w2 ⟨rfl,Aa⟩;replace da:=ma da Aa;have H2:=zH (HI.out.below da);have Hk:=zH (Mm HL.out da);have M2:=zd (F:=F) da;obtain ⟨x,td,EH⟩:=DO H2.out yJ.out HE.out Fg.out;have hc:=H2.out.blk.cell;clear Aa da se Ot;rw [HF.out] at td EH;obtain ⟨i,gq,d,rfl,hi,rfl,Cn,hgq⟩:=EH a rfl;have Rg:=zH (show ∃ F',OrcAt w2 g O F' /\ Moved F F' w w2 from ⟨F,⟨_,cs,km,sm,pm,E,H2.out⟩,M2⟩)
   obtain ⟨nq,mC⟩:=zEX (O.qs.length);rw [<- mC] at hi hc;have g1:(0:Int)<=i:=by omega
   have g2:(i:Int)<nq:=by omega
   clear EH mC M2;simp only [Option.isSome] at td;go_wp2_with fail
   go_ret
   exact ⟨rfl,Rg.out⟩
  | none =>
   have HF:=zH hf;cases hi:O.ideal
   ·obtain ⟨e1,e2⟩:=zBY (O:=O) (lab:=lab) HE.out hf hi
    rw [e1,e2];have HH:=zH hi;have MH:0<l.length:=by
     rcases Ta with e | e
     ·exact e
     ·rw [hi] at e;cases e
    have DD:=zH MH;clear e1 e2 hf hi Ta MH hd;go_enter func137,ntmps137
    go_wp2_with fail
    refine Mt.out.mono ?_;rintro e w1 ⟨rfl,rfl⟩;go_wp2_with fail
    generalize w.alloc _=w1 at se da |-;refine (Ot.out w1 se da).mono ?_;rintro e w2 ⟨rfl,Aa⟩;replace da:=ma da Aa;have H2:=zH (HI.out.below da);have Hk:=zH (Mm HL.out da);have M2:=zd (F:=F) da;obtain ⟨x,td,EH⟩:=DO H2.out yJ.out HE.out Fg.out;have hc:=H2.out.blk.cell;clear Aa da se Ot;rw [HF.out] at td;rw [HH.out] at hc;clear EH;simp only [Option.isSome] at td;go_wp2_with fail
    refine (dU lab A n c l w2 (Sj Hk.out) DD.out Fg.out).mono ?_;rintro e w3 ⟨rfl,Ua⟩;have H3:=zH (H2.out.below Ua);have HL3:=zH (Mm Hk.out Ua);have M3:=M2.trans (zd (F:=F) Ua);clear hc td Ua M2;go_wp2_with fail
    refine (Q5 H3.out lab l (Xn lab l) A n c HL3.out HK.out yJ.out HE.out (xM lab l) Fg.out HN.out HF.out (fun _=>rfl)).mono ?_
    rintro e w4 ⟨rfl,F',h4,m4⟩;have Rg:=zH (show ∃ F',OrcAt w4 g (Wh O lab l (Xn lab l)) F' /\ Moved F F' w w4 from ⟨F',h4,M3.trans m4⟩)
    clear h4 m4 M3;go_wp2;go_ret
    exact ⟨rfl,Rg.out⟩
   ·obtain ⟨e1,e2⟩:=zBW (O:=O) (lab:=lab) HE.out hf hi
    rw [e1,e2];have HH:=zH hi;have HD:=zH hd;clear e1 e2 hf hi Ta hd;go_enter func137,ntmps137
    go_wp2_with fail
    refine Mt.out.mono ?_;rintro e w1 ⟨rfl,rfl⟩;go_wp2_with fail
    generalize w.alloc _=w1 at se da |-;refine (Ot.out w1 se da).mono ?_;rintro e w2 ⟨rfl,Aa⟩;replace da:=ma da Aa;have H2:=zH (HI.out.below da);have Hk:=zH (Mm HL.out da);have M2:=zd (F:=F) da;obtain ⟨x,td,EH⟩:=DO H2.out yJ.out HE.out Fg.out;have hc:=H2.out.blk.cell;clear Aa da se Ot;rw [HF.out] at td;rw [HH.out] at hc;clear EH;simp only [Option.isSome] at td;go_wp2_with fail
    refine (zAY H2.out HH.out (by have:=HD.out;omega)).mono ?_
    rintro e w3 ⟨rfl,h3,Ph⟩;have H3:=zH h3;have HL3:=zH (Vv Hk.out Ph.size fun b hb hl=>Ph.block b hl (fun e=>HK.out b hb (by rw [db e];exact HI.out.fg)))
    have M3:=M2.trans (RL (F:=F) Ph (fun b hb=>by rw [<- db hb];exact HI.out.fg))
    clear hc td Ph M2 h3;go_wp2_with fail
    refine (Q5 H3.out lab l (Cq O) A n c HL3.out HK.out yJ.out HE.out (kR _) Fg.out (by rw [zz];exact HN.out) (by rw [zz];exact HF.out) (fun e=>by rw [uX,HH.out] at e;cases e)).mono ?_
    rintro e w4 ⟨rfl,F',h4,m4⟩;have Rg:=zH (show ∃ F',OrcAt w4 g (Wh (Jj O) lab l (Cq O)) F' /\ Moved F F' w w4 from ⟨F',h4,M3.trans m4⟩)
    clear h4 m4 M3;go_wp2;go_ret
    exact ⟨rfl,Rg.out⟩
theorem vO {w u:vw} (h:vA w.drew.1.size w.drew u):vA w.1.size w u:=⟨h.os,h.tape,h.output,h.size,h.block⟩
theorem EV {a b:Prop} (h:a) (s:Imp a b:=by
 (repeat ((first | (apply Imp.via (bG (pa) rfl rfl (fun _ _ _ h=>h))) | (apply Imp.via (aG (v:=?_) (pa) rfl rfl (fun _ _ _ h=>h) ?hr);case hr=>(intro w' hR;(first | have Bn:=EJ ((pa).trans _ _ _ ea hR) | skip);have td:=Sy.out _ (vO (pa.trans _ _ _ ea hR));go_simp;try with_reducible rfl)));simp only [vG,zLa,zLb,zLc]))
 exact Imp.rfl'):b:=s h
theorem zEf {w:vw} {g:Nat} {O:Ga} {F:Nat -> Prop} (h:OrcAt w g O F) (lab:Nat) (l:List Nat) (A:Option vy) (n c:Nat) (hl:RWd w [ve A n c] l)
  (bh:lab<18446744073709551616) (hlen:l.length <= 1000000) (Ta:0<l.length \/ O.ideal=true) (hn:O.qs.length <= 1000000) :
  vB prog 109 #[.pointer (vE ⟨g,0,vD⟩),vd vn lab,ve A n c] w fun e w'=>e=vl (.tuple #[vd vn (((ir O lab l).getD 0:Nat):Int), .bool (ir O lab l).isSome]) /\ vA w.1.size w w':=by
 have Mt:=zH (G0 A n c l w hl);obtain ⟨v,cs,km,sm,pm,E,Kc⟩:=h;cases he:Rc l
 ·rw [he] at Mt
  rw [zEh (O:=O) (lab:=lab) he];clear hl Ta hn Kc he;go_enter func109,ntmps109
  go_wp2_with fail
  refine Mt.out.mono ?_;rintro e w1 ⟨rfl,rfl⟩;go_wp2_with fail
  go_ret2
  exact ⟨rfl,za _ _⟩
 ·rw [he] at Mt
  have HE:=zH he;have HI:=zH Kc;have HL:=zH hl;have Fg:=zH hlen;have HN:=zH hn;have yJ:=zH bh;have Ot:=zH (fun w1 b (k:Blk w1 b 22 #[vd vn lab]) (hb:vA w.1.size w w1)=>show vB prog 204 #[ve A n c,ve (vE ⟨b,0,vD⟩) 1 1] w1 fun e w'=>e=vl (.string (S (qg (lab :: l)))) /\ vA w1.1.size w1 w' from NY A (vE ⟨b,0,vD⟩) n c 1 1 l [lab] w1 (Bb hb hl) (NC (l:=[lab]) k (by simp;exact bh) (by simp [maxLen])) hlen (by simp))
  have Sy:=zH (fun u (hb:vA w.1.size w u)=>qZ (Kc.below hb) bh he hlen)
  have YB:=zH Kc;have xg:=Kc.blk.cell;have wu:=Kc.blk.lt;have HFD:=zH (zCC Kc bh he hlen);clear he hl Kc hlen hn;cases hf:xd O.qs lab l with
  | some a =>
   rw [zEj (O:=O) (lab:=lab) HE.out hf];obtain ⟨i,gq,d,Jz,hi,rfl,hcq0,hgq⟩:=HFD.out a hf;have Sy:=zH (show ∀ u,vA w.1.size w u -> (Instr.lookup 117 (.map (vE km)) (.string (S (qg (lab :: l)))) true).run prog u= .ok (.tuple #[vd vq i, .bool true]) u from fun u hb=>by have:=Sy.out u hb;rw [hf,Jz] at this;exact this)
   have HCQ:=zH hcq0;have HI0:=zH hi;clear hf Ta HFD Jz hcq0 hi;go_enter func109,ntmps109
   go_wp2_with fail
   refine Mt.out.mono ?_;rintro e w1 ⟨rfl,rfl⟩;go_wp2_with fail
   refine Cd (Tb) [6,7] [0,1,2,3,4,5,6,7,8,9,10,11,12,13] (by kernel_rfl) (by kernel_rfl) ?_
   refine De (pa) ?_;intro Wc Ha ea;refine Ob ?_;refine Ye (pa) rfl rfl rfl ?_;go_simp;refine ⟨(za _ _).alloc zR _,?_⟩;have da:vA w.1.size w (Wc.alloc (.cells #[vd vn lab] 22)):=by rw [Ha.out];exact (za w.1.size w.drew).alloc zR _ |> vO
   have se:=Blk.new Wc 22 #[vd vn lab];replace ea:=pa.trans _ _ _ ea ((za Wc.1.size Wc).alloc zR (.cells #[vd vn lab] 22))
   refine zPU ?_
   generalize Wc.alloc _=w1 at se da ea |-;clear Ha;refine Gc (pa) rfl rfl rfl (fun _=>by go_simp <;> rfl) ((Ot.out w1 _ se da).mono ?_)
   rintro e w2 ⟨rfl,Aa⟩;refine ⟨_,rfl,Aa,?_⟩;replace ea:=(pa).trans _ _ _ ea (Aa);refine zPU ?_;refine EV ?_;refine Qc ?_;have hc:=(YB.out.below (ma da Aa)).blk.cell;replace da:=ma da Aa;clear Aa se ea xg wu;have Cn:=(da.cell (p:=⟨gq,i*3+2,vD⟩) hgq).trans HCQ.out;have hi:=HI0.out;obtain ⟨nq,mC⟩:=zEX (O.qs.length);rw [<- mC] at hi hc;have g1:(0:Int)<=i:=by omega
   have g2:(i:Int)<nq:=by omega
   clear mC;go_wp2_with fail
   go_ret2
   exact ⟨rfl,da⟩
  | none =>
   have HF:=zH hf;cases hi:O.ideal
   ·rw [zEi (O:=O) (lab:=lab) HE.out hf hi]
    have Sy:=zH (show ∀ u,vA w.1.size w u -> (Instr.lookup 117 (.map (vE km)) (.string (S (qg (lab :: l)))) true).run prog u= .ok (.tuple #[vd vq (IJ O lab l), .bool false]) u from fun u hb=>by have:=Sy.out u hb;rw [hf] at this;exact this)
    have HH:=zH hi;have MH:0<l.length:=by
     rcases Ta with e | e
     ·exact e
     ·rw [hi] at e;cases e
    have DD:=zH MH;clear hf hi Ta MH;go_enter func109,ntmps109
    go_wp2_with fail
    refine Mt.out.mono ?_;rintro e w1 ⟨rfl,rfl⟩;go_wp2_with fail
    refine Cd (Tb) [6,7] [0,1,2,3,4,5,6,7,8,9,10,11,12,13] (by kernel_rfl) (by kernel_rfl) ?_
    refine De (pa) ?_;intro Wc Ha ea;refine Ob ?_;refine Ye (pa) rfl rfl rfl ?_;go_simp;refine ⟨(za _ _).alloc zR _,?_⟩;have da:vA w.1.size w (Wc.alloc (.cells #[vd vn lab] 22)):=by rw [Ha.out];exact (za w.1.size w.drew).alloc zR _ |> vO
    have se:=Blk.new Wc 22 #[vd vn lab];replace ea:=pa.trans _ _ _ ea ((za Wc.1.size Wc).alloc zR (.cells #[vd vn lab] 22))
    refine zPU ?_
    generalize Wc.alloc _=w1 at se da ea |-;clear Ha;refine Gc (pa) rfl rfl rfl (fun _=>by go_simp <;> rfl) ((Ot.out w1 _ se da).mono ?_)
    rintro e w2 ⟨rfl,Aa⟩;refine ⟨_,rfl,Aa,?_⟩;replace ea:=(pa).trans _ _ _ ea (Aa);refine zPU ?_;refine EV ?_;refine Qc ?_;have hc:=(YB.out.below (ma da Aa)).blk.cell;replace da:=ma da Aa;clear Aa se ea xg wu;rw [HH.out] at hc;go_wp2_with fail
    refine (dU lab A n c l _ (Bb da HL.out) DD.out Fg.out).mono ?_;rintro e w3 ⟨rfl,Ua⟩;replace da:=ma da Ua;go_wp2
    go_ret2
    exact ⟨rfl,da⟩
   ·rw [zEg (O:=O) (lab:=lab) HE.out hf hi]
    have Sy:=zH (show ∀ u,vA w.1.size w u -> (Instr.lookup 117 (.map (vE km)) (.string (S (qg (lab :: l)))) true).run prog u= .ok (.tuple #[vd vq (IJ O lab l), .bool false]) u from fun u hb=>by have:=Sy.out u hb;rw [hf] at this;exact this)
    have HH:=zH hi;clear hf hi Ta;go_enter func109,ntmps109
    go_wp2_with fail
    refine Mt.out.mono ?_;rintro e w1 ⟨rfl,rfl⟩;go_wp2_with fail
    refine Cd (Tb) [6,7] [0,1,2,3,4,5,6,7,8,9,10,11,12,13] (by kernel_rfl) (by kernel_rfl) ?_
    refine De (pa) ?_;intro Wc Ha ea;refine Ob ?_;refine Ye (pa) rfl rfl rfl ?_;go_simp;refine ⟨(za _ _).alloc zR _,?_⟩;have da:vA w.1.size w (Wc.alloc (.cells #[vd vn lab] 22)):=by rw [Ha.out];exact (za w.1.size w.drew).alloc zR _ |> vO
    have se:=Blk.new Wc 22 #[vd vn lab];replace ea:=pa.trans _ _ _ ea ((za Wc.1.size Wc).alloc zR (.cells #[vd vn lab] 22))
    refine zPU ?_
    generalize Wc.alloc _=w1 at se da ea |-;clear Ha;refine Gc (pa) rfl rfl rfl (fun _=>by go_simp <;> rfl) ((Ot.out w1 _ se da).mono ?_)
    rintro e w2 ⟨rfl,Aa⟩;refine ⟨_,rfl,Aa,?_⟩;replace ea:=(pa).trans _ _ _ ea (Aa);refine zPU ?_;refine EV ?_;refine Qc ?_;have hc:=(YB.out.below (ma da Aa)).blk.cell;replace da:=ma da Aa;clear Aa se ea xg wu;rw [HH.out] at hc;go_wp2_with fail
    go_ret2
    exact ⟨rfl,da⟩
theorem J1 (i:Bool) (s:Nat) (hs:s<18446744073709551616):OrcOk (newO i s):=⟨hs,fun _ h=>(nomatch h),List.Pairwise.nil,fun _ _ h=>(nomatch h)⟩
theorem VZ (w:vw) :
  vB prog 54 #[] w fun e w'=>∃ g km sm pm F,e=vl (.pointer (vE ⟨g,0,vD⟩)) /\ OrcIn w' g ⟨false,0,0,[]⟩ F (ve vD 0 0) [] km sm pm (fun _=>False) /\ (∀ b,F b -> w.1.size <= b) /\ vA w.1.size w w':=by
 have hmm:=@run_makeMap prog;have hm:=World.ownsMap_made (H:=Unit) w prog 9 (plainElem prog 3);go_enter func54,ntmps54
 go_wp2_with fail
 go_ret
 have Ca:=(za w.1.size w).alloc zR (.map #[] 0);have Aa:=Ca.alloc (by first | omega | (simp;done) | (simp;omega)) (.map #[] 0)
 have Ua:=Aa.alloc (by first | omega | (simp;done) | (simp;omega)) (.map #[] 0)
 have zb:=Ua.alloc (by first | omega | (simp;done) | (simp;omega)) (.cells #[.bool false,vd vn 0,vd vq 0,ve vD 0 0, .map (vE w.1.size), .map (vE (w.1.size+1)), .map (vE (w.1.size+1+1))] 121)
 have kb:=Blk.new (((w.alloc (.map #[] 0)).alloc (.map #[] 0)).alloc (.map #[] 0)) 121 #[.bool false,vd vn 0,vd vq 0,ve vD 0 0, .map (vE w.1.size), .map (vE (w.1.size+1)), .map (vE (w.1.size+1+1))];have hm4:=((hm.alloc (.map #[] 0)).alloc (.map #[] 0)).alloc (.cells #[.bool false,vd vn 0,vd vq 0,ve vD 0 0, .map (vE w.1.size), .map (vE (w.1.size+1)), .map (vE (w.1.size+1+1))] 121);have tb:(((w.alloc (.map #[] 0)).alloc (.map #[] 0)).alloc (.map #[] 0)).1.size=w.1.size+1+1+1:=by simp
 rw [tb] at kb;generalize (((w.alloc (.map #[] 0)).alloc (.map #[] 0)).alloc (.map #[] 0)).alloc _=w4 at zb kb hm4 |-;have hl:=kb.lt;refine ⟨w.1.size+1+1+1,w.1.size,w.1.size+1,w.1.size+1+1,fun b=>b=w.1.size+1+1+1 \/ b=w.1.size,rfl,?_,fun b h=>by omega,zb⟩
 exact ⟨J1 false 0 (by decide),kb,⟨rfl, .inl ⟨rfl,rfl⟩⟩,zEL _ _,hm4,fun _ h=>h.elim,by omega,by simp [Value.ownBlock],by simp [Value.ownBlock], .inl rfl,by simp [Value.ownBlock], .inr rfl,fun _ h=>h.elim,fun b h=>by omega⟩
theorem zFa (w:vw) :
  vB prog 24 #[] w fun e w'=>∃ g F,e=vl (.pointer (vE ⟨g,0,vD⟩)) /\ OrcAt w' g ⟨false,0,0,[]⟩ F /\ (∀ b,F b -> w.1.size <= b) /\ vA w.1.size w w':=by
 go_enter func24,ntmps24
 go_wp2_with fail
 refine (VZ w).mono ?_;rintro e w1 ⟨g,km,sm,pm,F,rfl,h,hF,hb⟩;go_wp2;go_ret
 exact ⟨g,F,rfl,⟨_,_,_,_,_,_,h⟩,hF,hb⟩
theorem zB2 (seed:Nat) (w:vw) (hs:seed<18446744073709551616) :
  vB prog 16 #[vd vn seed] w fun e w'=>∃ g F,e=vl (.pointer (vE ⟨g,0,vD⟩)) /\ OrcAt w' g ⟨true,seed,0,[]⟩ F /\ (∀ b,F b -> w.1.size <= b) /\ vA w.1.size w w':=by
 have HS:=zH hs;clear hs;go_enter func16,ntmps16
 go_wp2_with fail
 refine (VZ w).mono ?_;rintro e w1 ⟨g,km,sm,pm,F,rfl,h,hF,hb⟩;have hf:=h.blk.frozen;have H:=zH h;have HF:=zH hF;have hc:=h.blk.cell;clear h hF;go_wp2_with fail
 go_ret
 have hg:=RN w1 g 0 1 (.bool true) (vd vn seed);have kb:=aE H.out.blk 0 1 (.bool true) (vd vn seed);have Xx:=HF.out g H.out.fg;generalize (w1.setCell ⟨g,0,vD⟩ (.bool true)).setCell ⟨g,1,vD⟩ (vd vn seed)=w2 at hg kb |-;refine ⟨g,F,rfl,⟨_,_,_,_,_,_,H.out.turn (O':=⟨true,seed,0,[]⟩) (J1 true seed HS.out) rfl (by simpa using kb) hg⟩,HF.out,hb.trans (Ok hg hb.size Xx)⟩
theorem KY {w:vw} {g:Nat} {O:Ga} {F:Nat -> Prop} (h:OrcAt w g O F) :
  vB prog 256 #[.pointer (vE ⟨g,0,vD⟩)] w fun e w'=>e=vl (.bool O.ideal) /\ w=w':=by
 obtain ⟨v,cs,km,sm,pm,E,Kc⟩:=h;have hc:=Kc.blk.cell;clear Kc;go_enter func256,ntmps256
 go_wp2_with fail
 go_ret
 exact ⟨rfl,rfl⟩
def fw (n:Nat):Bool:=(List.range 11).any fun d=>2^d == n
theorem Q9:∀ b:Fin 1025,1 <= b.val -> bits .and vq (b.val:Int) ((b.val:Int)-1)=((b.val &&& (b.val-1):Nat):Int):=by decide +kernel
theorem zDg:∀ b:Fin 1025,1 <= b.val -> fw b.val=decide (b.val &&& (b.val-1)=0):=by decide +kernel
theorem ZZ {n:Nat} (h:fw n=true):∃ d,d <= 10 /\ n=2^d:=by
 obtain ⟨d,hd,he⟩:=List.any_eq_true.1 h;exact ⟨d,by have:=Uh.1 hd;omega,(Hh.1 he).symm⟩
theorem WT {d:Nat} (h:d <= 10):fw (2^d)=true:=List.any_eq_true.2 ⟨d,Uh.2 (by omega),by simp⟩
theorem zDe {n:Nat} (h:1024<n):fw n=false:=by
 cases hc:fw n
 ·rfl
 ·obtain ⟨d,hd,rfl⟩:=ZZ hc
  have:2^d <= 2^10:=Zr (by omega) hd
  omega
theorem zDf:fw 0=false:=by decide
theorem jT (n:Nat) (w:vw) :
  vB prog 135 #[vd vq n] w fun e w'=>e=vl (.bool (fw n)) /\ w=w':=by
 by_cases h1:1 <= n
 ·by_cases h2:n <= 1024
  ·have HN:=zH (zDg ⟨n,by omega⟩ h1)
   have ha:=Q9 ⟨n,by omega⟩ h1
   simp only at ha;obtain ⟨a,hae⟩:=zEX (n &&& (n-1));rw [<- hae] at ha;have HA:=zH hae;have d1:decide ((1:Int)<=n)=true:=yb (by omega)
   have d2:decide ((n:Int)<=1024)=true:=yb (by omega)
   have e1:vq.wrap ((n:Int)-1)=(n:Int)-1:=by rw [so];omega
   have d3:((a:Int) == 0)=decide (a=0):=by by_cases h:a=0 <;> simp [h]
   obtain ⟨r,hr⟩:=zEX (fw n);have HR:=zH (show decide (a=0)=r by rw [hr,HA.out];exact HN.out.symm)
   rw [<- hr];rw [HR.out] at d3;clear hr HN hae h1 h2;go_enter func135,ntmps135
   go_wp2_with fail
   go_ret
   exact ⟨rfl,rfl⟩
  ·rw [zDe (by omega)]
   have d1:decide ((1:Int)<=n)=true:=yb (by omega)
   have d2:decide ((n:Int)<=1024)=false:=xb (by omega)
   clear h1 h2;go_enter func135,ntmps135
   go_wp2_with fail
   go_ret
   exact ⟨rfl,rfl⟩
 ·obtain rfl:n=0:=by omega
  rw [zDf];clear h1;go_enter func135,ntmps135
  go_wp2_with fail
  go_ret
  exact ⟨rfl,rfl⟩
theorem FO (A:Option vy) (n c:Nat) (l:List Nat) (w:vw) (hl:RWd w [ve A n c] l) :
  vB prog 136 #[ve A n c] w fun e w'=>e=vl (.bool (Rc l)) /\ w=w':=by
 obtain ⟨rfl,h1,h2,-,Ma⟩:=Qb hl;have gm:=Tl h1 h2;clear hl h1 h2;go_enter func136,ntmps136
 go_wp2_with fail
 go_loop [7] (fun i=>∃ j:Nat,j <= l.length /\ i=vd vq j /\ Hid (Rc (l.take j)=true)) (fun i=>l.length-(intOf i).toNat)
 case atStart=>exact ⟨0,Lb _,rfl,rfl⟩
 case round =>
  obtain ⟨j,hj,rfl,HB⟩:=hrel;by_cases ra:j<l.length
  ·obtain ⟨b,q,rfl,Gb,hc⟩:=Ie Ma ra
   have HL:=zH ra;have g1:(0:Int)<=j:=by omega
   have g2:(j:Int)<l.length:=by omega
   have HN:=zH (fun h=>pW (l:=l) ra h)
   have HY:=zH (fun h=>qW (l:=l) ra HB.out h)
   revert hc HN HY
   generalize l.getD j 0=y;intro hc HN HY;clear Ma;by_cases z:Za <= y
   ·have HZ:=zH (HN.out z)
    unfold Za at z;have d1:decide ((18446744069414584321:Int)<=y)=true:=yb (by omega)
    clear HN HY;go_wp2;go_ret
    exact ⟨by rw [HZ.out];rfl,rfl⟩
   ·have HZ:=zH (HY.out (by omega))
    unfold Za at z;have d1:decide ((18446744069414584321:Int)<=y)=false:=xb (by omega)
    clear HN HY;go_wp2
    go_round
    case rel=>exact ⟨j+1,by omega,by go_num,HZ.out⟩
    case measure=>simp [intOf];omega
  ·have e:j=l.length:=by omega
   have HA:=zH (show Rc l=true by have:=HB.out;rwa [e,Cp] at this)
   clear Ma;go_wp2;go_ret
   exact ⟨by rw [HA.out];rfl,rfl⟩
theorem MU (x:Nat) (A:Option vy) (n c:Nat) (l:List Nat) (w:vw) (hl:RWd w [ve A n c] l) (hlen:l.length <= 1000000) :
  vB prog 138 #[vd vn x,ve A n c] w fun e w'=>∃ v,e=vl v /\ w'.ownsRow w.1.size 22 1 v (n+1) (Ia (x :: l)) /\ vA w.1.size w w':=by
 obtain ⟨rfl,h1,h2,ra,Ma⟩:=Qb hl;clear hl ra h1 h2;have da:=(za w.1.size w).alloc zR (.cells #[vd vn x] 22);have TE:(w.alloc (.cells #[vd vn x] 22)).ownsRow w.1.size 22 1 (ve (vE ⟨w.1.size,0,vD⟩) 1 1) 1 (Ia [x]):=⟨rfl, .inr ⟨w.1.size,1,_,rfl,zR,heap_alloc_new w _,zR,by simp [maxLen],rfl,rfl⟩⟩
 have hrd0:=Ma.below da;go_enter func138,ntmps138
 go_wp2_with (at_builtin;refine oh rfl _ _ rfl CB rfl TE rfl hrd0 (Ck _) (by omega) (by have:=da.size;omega) ?_)
 intro v' w2 xa Va Zb;go_wp2;go_ret
 exact ⟨_,rfl,by rw [Nat.add_comm];exact dA (a:=[x]) xa rfl,da.trans (Sl TE Va (by have:=da.size;omega))⟩
def yp (K:Nat -> Prop) (w:vw) (v:vx) (ls:List (List Nat)):Prop :=
 ∃ A n c,v=ve A n c /\ ls.length=n /\ n <= c /\ c <= maxLen /\ ∀ (i:Nat) (hi:i<ls.length),∃ b q A1 n1 c1,A=vE ⟨b,q,vD⟩ /\ K b /\ b<w.1.size /\ w.cell? ⟨b,q+i,vD⟩=vE (ve A1 n1 c1) /\ Me K w (ve A1 n1 c1) ls[i]
section
variable {K K' F F' TA T:Nat -> Prop} {w w':vw} {v:vx} {ls:List (List Nat)}
theorem tT (h:yp K w v ls) (hs:w.1.size <= w'.1.size) (hw:∀ b,K b -> b<w.1.size -> w'.1[b]?=w.1[b]?):yp K w' v ls:=by
 obtain ⟨A,n,c,h1,h2,h3,h4,h5⟩:=h;refine ⟨A,n,c,h1,h2,h3,h4,fun i hi=>?_⟩
 obtain ⟨b,q,A1,n1,c1,e1,e2,e3,e4,e5⟩:=h5 i hi;refine ⟨b,q,A1,n1,c1,e1,e2,by omega,?_,Vv e5 hs hw⟩
 rw [<- e4];simp only [World.cell?,hw b e2 e3]
theorem sT (h:yp K w v ls) (hb:vA w.1.size w w'):yp K w' v ls:=tT h hb.size fun b _ hl=>hb.block b hl
theorem zCq (h:yp K w v ls) (m:Moved F F' w w') (hK:∀ b,K b -> ¬F b):yp K w' v ls:=tT h m.size fun b hb hl=>m.block b hl (hK b hb)
theorem TY (h:yp K w v ls):mg w [v] ls:=by
 obtain ⟨A,n,c,rfl,h2,h3,h4,h5⟩:=h;refine ⟨A,n,c,rfl,h2,h3,h4,fun i hi=>?_⟩
 obtain ⟨b,q,A1,n1,c1,e1,e2,e3,e4,e5⟩:=h5 i hi;refine ⟨⟨b,q,vD⟩,[ve A1 n1 c1],e1,rfl,fun j hj=>?_,Sj e5⟩
 obtain rfl:j=0:=by omega
 rw [pn,show q+(i*1+0)=q+i by omega,e4]
 rfl
theorem IL {A:Option vy} {n c:Nat} (h:yp K w (ve A n c) ls) {i:Nat} (hi:i<ls.length):∃ b q A1 n1 c1,A=vE ⟨b,q,vD⟩ /\ K b /\ b<w.1.size /\ w.cell? ⟨b,q+i,vD⟩=vE (ve A1 n1 c1) /\ Me K w (ve A1 n1 c1) (ls.getD i []):=by
 obtain ⟨A',n',c',h1,h2,h3,h4,h5⟩:=h
 injection h1 with e1 e2 e3
 subst e1 e2 e3;obtain ⟨b,q,A1,n1,c1,e1,e2,e3,e4,e5⟩:=h5 i hi;exact ⟨b,q,A1,n1,c1,e1,e2,e3,e4,by rw [Jb,oc hi];exact e5⟩
theorem zCp {A:Option vy} {n c:Nat} (h:yp K w (ve A n c) ls):ls.length=n /\ n <= c /\ c <= maxLen:=by
 obtain ⟨A',n',c',h1,h2,h3,h4,h5⟩:=h
 injection h1 with e1 e2 e3
 subst e1 e2 e3;exact ⟨h2,h3,h4⟩
def MD (T:Nat -> Prop) (w:vw) (cs:List vx) (ls:List (List Nat)):Prop:=cs.length=ls.length /\ ∀ (i:Nat) (h1:i<cs.length) (h2:i<ls.length),Me T w cs[i] ls[i]
theorem OL {cs:List vx} (h:MD T w cs ls) (hs:w.1.size <= w'.1.size) (hw:∀ b,T b -> b<w.1.size -> w'.1[b]?=w.1[b]?):MD T w' cs ls:=⟨h.1,fun i h1 h2=>Vv (h.2 i h1 h2) hs hw⟩
theorem zCF {cs:List vx} (h:MD K w cs ls) (hk:∀ b,K b -> K' b):MD K' w cs ls:=⟨h.1,fun i h1 h2=>GL (h.2 i h1 h2) hk⟩
theorem zCD {cs:List vx} {x:vx} {l:List Nat} (h:MD T w cs ls) (hx:Me T w x l):MD T w (cs++[x]) (ls++[l]):=by
 refine ⟨by simp [h.1],fun i h1 h2=>?_⟩
 by_cases hi:i<cs.length
 ·rw [Tu hi]
  have Hf:i<ls.length:=by rw [<- h.1];exact hi
  rw [Tu Hf];exact h.2 i hi Hf
 ·have e1:i=cs.length:=by simp at h1;omega
  have e2:i=ls.length:=by rw [e1,h.1]
  have g1:(cs++[x])[i]=x:=by subst e1;simp
  have g2:(ls++[l])[i]=l:=by subst e2;simp
  rw [g1,g2];exact hx
theorem zCE {cs:List vx} {base n:Nat} {e:vz} (h:MD T w cs ls) (ho:w.ownsRow base e 1 v n cs):yp (fun b=>T b \/ v.ownBlock=vE b) w v ls:=by
 have hn:=ho.1;rcases ho.2 with ⟨rfl,rfl⟩ | ⟨g,cap,cur,hv,hb,hh,h1,h2,-⟩
 ·have:ls=[]:=WI (by rw [<- h.1,hn])
  subst this;exact ⟨vD,0,0,rfl,rfl,zR,by simp [maxLen],fun i hi=>absurd hi (by simp)⟩
 ·subst hv
  refine ⟨_,n,cap,rfl,by rw [<- h.1,hn,Yr],h1,h2,fun i hi=>?_⟩
  have Hf:i<cs.length:=by rw [h.1];exact hi
  have hc:=ho.cells (g:=g) rfl i cs[i] (oc Hf);have hk:=h.2 i Hf hi;obtain ⟨A1,c1,e1,-⟩:=cA hk;rw [e1] at hc hk;refine ⟨g,0,A1,_,c1,rfl, .inr rfl,(Pu.1 hh).1,?_,GL hk fun b hb=>.inl hb⟩
  rw [<- hc];by_cases h0:i=0 <;> simp [Addr.add,h0]
theorem lN {w:vw} {g i:Nat} {t:vz} {l:List Nat} (k:Blk w g t (Ia l).toArray) (h:i<l.length):w.cell? ⟨g,i,vD⟩=vE (vd vn ((l.getD i 0:Nat):Int)):=by
 rw [k.cell];simp [Ia,Jb,h]
def Fh (F:Nat -> Prop) (x:Nat):Nat -> Prop:=fun b=>F b \/ b=x
theorem KO (m:Moved F F' w w') (x:Nat):Moved (Fh F x) (Fh F' x) w w':=⟨m.os,m.tape,m.output,m.size,fun b hb hn=>m.block b hb (fun hf=>hn (.inl hf)),fun b hb=>by
 rcases hb with hb | hb
 ·rcases m.foot b hb with e | e
  ·exact .inl (.inl e)
  ·exact .inr e
 ·exact .inl (.inr hb)⟩
theorem DZ {x:Nat} (w:vw) (i:Nat) (u:vx):Moved (Fh F x) (Fh F x) w (w.setCell ⟨x,i,vD⟩ u) :=
 RL (Mf (p:=⟨x,i,vD⟩) (Vd w (vE x)) (.inl rfl) u) fun _ h=>.inr (db h).symm
theorem zCX {w0:vw} {x:Nat} (m0:Moved F F w0 w) (m:Moved (Fh F x) (Fh F' x) w w') (hx:w0.1.size <= x):Moved F F' w0 w' :=
 ⟨m.os.trans m0.os,m.tape.trans m0.tape,m.output.trans m0.output,jb m0.size m.size,
  fun b hb hn=>(m.block b (by have:=m0.size;omega) (fun e=>by rcases e with e | e;exact hn e;omega)).trans (m0.block b hb hn),
  fun b hb=>by
   rcases m.foot b (.inl hb) with e | e
   ·rcases e with e | e
    ·exact .inl e
    ·exact .inr (by omega)
   ·exact .inr (jb m0.size e)⟩
theorem zCY {w0:vw} {x:Nat} (m0:Moved F F' w0 w) (m:Moved (Fh F' x) (Fh TA x) w w') (hx:w0.1.size <= x):Moved F TA w0 w' :=
 ⟨m.os.trans m0.os,m.tape.trans m0.tape,m.output.trans m0.output,jb m0.size m.size,
  fun b hb hn=>(m.block b (by have:=m0.size;omega) (fun e=>by
   rcases e with e | e
   ·rcases m0.foot b e with h | h
    ·exact hn h
    ·omega
   ·omega)).trans (m0.block b hb hn),
  fun b hb=>by
   rcases m.foot b (.inl hb) with e | e
   ·rcases e with e | e
    ·exact m0.foot b e
    ·exact .inr (by omega)
   ·exact .inr (jb m0.size e)⟩
theorem CZ {w0:vw} {row:Option Nat} (m:Moved F F' w0 w) (hg:w.grownBy w' row) (hr:∀ b,row=vE b -> w0.1.size <= b):Moved F F' w0 w' :=
 ⟨hg.os.trans m.os,hg.tape.trans m.tape,hg.output.trans m.output,jb m.size hg.size,fun b hb hn=>(hg.block b (by have:=m.size;omega) (fun e=>by have:=hr b e.symm;omega)).trans (m.block b hb hn),m.foot⟩
theorem tg {w0:vw} {x:Nat} (m:Moved F F' w0 w) (hx:w0.1.size <= x) (i:Nat) (u:vx):Moved F F' w0 (w.setCell ⟨x,i,vD⟩ u) :=
 ⟨m.os,m.tape,m.output,by simpa [vF] using m.size,fun b hb hn=>(Uf w _ u b (fun e=>by subst e;exact absurd hb (by simpa using hx))).trans (m.block b hb hn),m.foot⟩
theorem cY {x i N:Nat} (hx:F x) (u:vx):zi F N w (w.setCell ⟨x,i,vD⟩ u):=⟨rfl,rfl,rfl,by simp [vF],fun b _ hn=>Uf w _ u b (fun e=>hn (by subst e;exact hx))⟩
theorem OrcAt.set {g x i:Nat} {O:Ga} (h:OrcAt w g O F) (hx:¬F x) (u:vx):OrcAt (w.setCell ⟨x,i,vD⟩ u) g O F :=
 h.keep (by simp [vF]) fun b hb=>Uf w _ u b (fun e=>hx (by subst e;exact hb))
end
structure Wi (K:Nat -> Prop) (w u:vw):Prop where
 os:u.os=w.os
 tape:u.tape=w.tape
 output:u.output=w.output
 size:w.1.size <= u.1.size
 block:∀ b,K b -> b<w.1.size -> u.1[b]?=w.1[b]?
section
variable {K K' F F':Nat -> Prop} {w u v:vw} {Q Q':vw -> Prop}
theorem E9:Wi K w w:=⟨rfl,rfl,rfl,zR,fun _ _ _=>rfl⟩
theorem TD (h:Wi K w u) (k:Wi K u v):Wi K w v:=⟨k.os.trans h.os,k.tape.trans h.tape,k.output.trans h.output,jb h.size k.size,fun b hb hl=>(k.block b hb (Sd hl h.size)).trans (h.block b hb hl)⟩
theorem gu (h:Wi K w u) (hk:∀ b,K' b -> K b):Wi K' w u:=⟨h.os,h.tape,h.output,h.size,fun b hb hl=>h.block b (hk b hb) hl⟩
theorem ng (h:vA w.1.size w u):Wi K w u:=⟨h.os,h.tape,h.output,h.size,fun b _ hl=>h.block b hl⟩
theorem ik (m:Moved F F' w u) (hK:∀ b,K b -> ¬F b):Wi K w u:=⟨m.os,m.tape,m.output,m.size,fun b hb hl=>m.block b hl (hK b hb)⟩
theorem ZV:Wi K w w.drew:=⟨rfl,rfl,rfl,zR,fun _ _ _=>rfl⟩
theorem C9 {row:Option Nat} (h:w.grownBy u row) (hr:∀ b,row=vE b -> ¬K b):Wi K w u:=⟨h.os,h.tape,h.output,h.size,fun b hb hl=>h.block b hl (fun e=>hr b e.symm hb)⟩
theorem bW {x i:Nat} {c:vx} (hx:¬K x):Wi K w (w.setCell ⟨x,i,vD⟩ c):=⟨rfl,rfl,rfl,by simp [vF],fun b hb _=>Uf w _ c b (fun e=>hx (by subst e;exact hb))⟩
def Hd (K:Nat -> Prop) (w:vw) (Q:vw -> Prop):Prop:=∀ u,Wi K w u -> Q u
theorem yg (h:Hd K w Q):Q w:=h w E9
theorem Td (h:Hd K w Q) (a:Wi K w u):Hd K u Q:=fun v k=>h v (TD a k)
theorem uk (h:Hd K w Q) (a:Wi K w u):Q u:=h u a
theorem WN (h:Hd K w Q) (hk:∀ b,K b -> K' b):Hd K' w Q:=fun v k=>h v (gu k hk)
theorem hd_lt (h:Hd K w Q):Hd (fun b=>K b /\ b<w.1.size) w Q:=fun u k=>h u ⟨k.os,k.tape,k.output,k.size,fun b hb hl=>k.block b ⟨hb,hl⟩ hl⟩
theorem Kz (h:Hd K w Q) (hq:∀ u,Q u -> Q' u):Hd K w Q':=fun v k=>hq v (h v k)
theorem rY {α:Type} {R:vw -> List vx -> α -> Prop} {w0:vw} {cs:List vx} {x:α} (hR:dB R) (h:R w0 cs x) (hb:vA w0.1.size w0 w):Hd (fun b=>b<w0.1.size) w fun u=>R u cs x:=fun u a =>
 hR w0 u cs x ⟨a.os.trans hb.os,a.tape.trans hb.tape,a.output.trans hb.output,jb hb.size a.size,fun b hl=>(a.block b hl (Sd hl hb.size)).trans (hb.block b hl)⟩ h
theorem sY {w0:vw} {Q:vw -> Prop} (hQ:∀ u,vA w0.1.size w0 u -> Q u) (hb:vA w0.1.size w0 w):Hd (fun b=>b<w0.1.size) w Q:=fun u a =>
 hQ u ⟨a.os.trans hb.os,a.tape.trans hb.tape,a.output.trans hb.output,jb hb.size a.size,fun b hl=>(a.block b hl (Sd hl hb.size)).trans (hb.block b hl)⟩
theorem hd_krr {x:vx} {ls:List (List Nat)} (h:yp K w x ls):Hd K w fun u=>mg u [x] ls:=fun _ a=>TY (tT h a.size a.block)
theorem vL {base n size:Nat} {e:vz} {x:vx} {xs:List vx} (h:w.ownsRow base e size x n xs):Hd (fun b=>x.ownBlock=vE b) w fun u=>u.ownsRow base e size x n xs:=fun _ a =>
 qi h fun b hb=>a.block b hb (h.lt b hb).2
def GF (w:vw) (b:Nat):vw:={ w with heap:=w.1.setIfInBounds b (.cells #[] 0) }
theorem RQ {b:Nat} (h:¬K b):Wi K w (GF w b):=⟨rfl,rfl,rfl,by simp [GF],fun c hc hl=>by
 have Ta:b≠c:=fun e=>h (e ▸ hc)
 simp [GF,Ta]⟩
theorem UU {b i:Nat} (hb:b<w.1.size):(GF w b).cell? ⟨b,i,vD⟩=vD:=by
 simp [GF,World.cell?,hb]
theorem SY {x:vx} {l:List Nat} (h:Hd K w fun u=>RWd u [x] l):Me K w x l:=fun u hu=>by
 obtain ⟨A,n,c,e,h2,h3,h4,h5⟩:=yg h;refine ⟨A,n,c,e,h2,h3,?_,h5⟩;by_cases h0:0<n
 ·obtain ⟨b,q,rfl,hb,hc⟩:=Cy h4 h0
  have hK:K b:=RI fun hn=>by
   obtain ⟨A',n',c',e',-,-,k4,-⟩:=h (GF w b) (RQ hn);rw [e] at e'
   injection e' with e' _
   injection e' with e1 e2 e3
   subst e1 e2;obtain ⟨b',q',e4,aj,zn⟩:=Cy k4 h0
   injection e4 with e4
   injection e4 with e5 e6
   subst e5 e6;have k1:=zn 0 h0;rw [UU hb] at k1;have k2:=h4.1;rw [oc (by omega)] at k1
   cases k1
  refine ⟨h4.1,fun _=>⟨_,rfl,fun j y hj=>?_⟩⟩
  have hjn:j<n:=by
   have:=(List.getElem?_eq_some_iff.1 hj).1;have:=h4.1;omega
  rw [pn];have:=hc j hjn;rw [hj] at this;simp only [World.cell?,hu b hK hb] at this |-;exact this
 ·exact ⟨h4.1,fun h=>absurd h h0⟩
theorem uO {x:vx} {ls:List (List Nat)} (h:Hd K w fun u=>mg u [x] ls):yp K w x ls:=by
 have h0:=yg h;obtain ⟨A,n,c,e0,-⟩:=id h0
 injection e0 with e0
 subst e0;obtain ⟨h1,h2,h3,h4⟩:=zj h0;refine ⟨A,n,c,rfl,h1,h2,h3,fun i hi=>?_⟩
 obtain ⟨b,q,A1,n1,c1,rfl,e2,e3,e4⟩:=Lu h4 hi;have hK:K b:=RI fun hn=>by
  obtain ⟨-,-,-,k4⟩:=zj (h (GF w b) (RQ hn));obtain ⟨b',q',A2,n2,c2,f1,f2,f3,f4⟩:=Lu k4 hi
  injection f1 with f1
  injection f1 with f5 f6
  subst f5 f6;rw [UU e2] at f3;cases f3
 refine ⟨b,q,A1,n1,c1,rfl,hK,e2,e3,SY fun u a=>?_⟩
 obtain ⟨-,-,-,k4⟩:=zj (h u a);obtain ⟨b',q',A2,n2,c2,f1,f2,f3,f4⟩:=Lu k4 hi
 injection f1 with f1
 injection f1 with f5 f6
 subst f5 f6;have e5:u.cell? ⟨b,q+i,vD⟩=w.cell? ⟨b,q+i,vD⟩:=by simp only [World.cell?,a.block b hK e2]
 rw [e5,e3] at f3
 injection f3 with f3
 injection f3 with g1 g2 g3
 subst g1 g2 g3;exact f4
end
end Go.Proofs.YteoghgbnielkpaaGreat
