/- A part of the proof. No condition. -/
import Derived.Test.YteoghgbnielkpaaGreatPP11
import Derived.Carry
import Derived.Maps.Views

set_option maxRecDepth 100000
set_option maxHeartbeats 8000000
set_option linter.unusedVariables false
set_option linter.unusedSimpArgs false
namespace Go.Proofs.YteoghgbnielkpaaGreat
open Go.RowKit
open Tryz
open Go renaming World->vu, Value->vw, Addr->vx, TypeId->vy, Calls->vA
open Go.Value renaming int->vd, slice->ve, agg->vf
open Go.IntKind renaming u64->vo, i64->vq
open Go.Ending renaming returned->vn
open Go.RowKit renaming Below->vz
open Go.World renaming setCell->vE
open Go.Act renaming put->vF
open Option renaming none->vB, some->vD
theorem zFY (p:Nat) (pub vars:Int) (A:Option vx) (n c:Nat) (rows:List sc) (bl bw qs:Int) (w:vu) (hr:RSl 3 yg w [ve A n c] rows) (ht:Jd p pub vars rows=false) :
  vA prog 55 (Uv p pub vars A n c bl bw qs) w fun e w'=>e=vn (.tuple #[vf Fh,vd vq 1]) /\ vz w.1.size w w':=by
 have HV:=zH (fun w' (hb:vz w.1.size w w')=>iQ p pub vars A n c rows w' (Qg Bh _ _ _ _ hb hr))
 rw [ht] at HV;clear hr ht;unfold Uv Xc Fh at *;obtain ⟨kt,kx,kz,da,-⟩:=Sw w 25 27 101 #[vd vo p,vd vq pub,vd vq vars,ve A n c] #[vd vq bl,vd vq bw,vd vq qs] #[vd vo 0,vd vq 0,vd vq 0,vd vq 0,vd vq 0,vd vq 0,vd vq 0,vd vq 0,vd vq 0,vd vq 0,vd vq 0];go_enter func55,ntmps55
 go_wp2_with fail
 generalize ((w.alloc _).alloc _).alloc _=w0 at kt kx kz da |-;refine (HV.out _ da).mono ?_;rintro e w1 ⟨rfl,Oa⟩;replace kz:=pa kz Oa;replace da:=ta da Oa;clear Oa kt kx;have cz:=kz.cell;have fz:=kz.frozen;go_wp2_with fail
 obtain ⟨wf,Yc,kW,hW⟩:=SB kz da;rw [Yc];clear Yc cz fz kz da;have c4:=kW.cell;exact Uc (v:=.tuple #[vf #[vd vo 0,vd vq 0,vd vq 0,vd vq 0,vd vq 0,vd vq 0,vd vq 0,vd vq 0,vd vq 0,vd vq 0,vd vq 0],vd vq 1]) (by simp [results,results55,go_sem,c4]) rfl ⟨rfl,hW⟩
def UF (p:Nat) (pub vars:Int) (rows:List sc) (bl bw qs:Int):Int:=if Jd p pub vars rows then uz ⟨p,pub,vars,rows.length,bl,bw,qs⟩ else 1
def FU (p:Nat) (pub vars:Int) (rows:List sc) (bl bw qs:Int) (e:Ending):Prop:=∃ lcs:Array vw,e=vn (.tuple #[vf lcs,vd vq (UF p pub vars rows bl bw qs)]) /\
 ((UF p pub vars rows bl bw qs≠0 /\ lcs=Fh) \/ (UF p pub vars rows bl bw qs=0 /\ Jd p pub vars rows=true /\ ∃ L,Ad L /\ yy L ⟨p,pub,vars,rows.length,bl,bw,qs⟩ /\ lcs=Ub L))
theorem zFd {p:Nat} {pub vars:Int} {rows:List sc} {bl bw qs:Int} {e:Ending} (ht:Jd p pub vars rows=true) (h:TG ⟨p,pub,vars,rows.length,bl,bw,qs⟩ e):FU p pub vars rows bl bw qs e:=by
 have hE:UF p pub vars rows bl bw qs=uz ⟨p,pub,vars,rows.length,bl,bw,qs⟩:=by unfold UF;rw [Lb ht]
 obtain ⟨lcs,er,he,h | h⟩:=h
 ·obtain ⟨h1,h2,h3⟩:=h
  exact ⟨lcs,by rw [hE,<- h3];exact he, .inl ⟨by rw [hE,<- h3];exact h1,h2⟩⟩
 ·obtain ⟨h1,L,h2,h3,h4⟩:=h
  have h5:=h3.err;exact ⟨lcs,by rw [hE,h5,<- h1];exact he, .inr ⟨by rw [hE,h5],ht,L,h2,h3,h4⟩⟩
theorem zFc {p:Nat} {pub vars:Int} {rows:List sc} {bl bw qs:Int} {e:Ending} (ht:Jd p pub vars rows=false) (h:e=vn (.tuple #[vf Fh,vd vq 1])):FU p pub vars rows bl bw qs e:=by
 have hE:UF p pub vars rows bl bw qs=1:=by unfold UF;rw [ht];rfl
 exact ⟨Fh,by rw [hE];exact h, .inl ⟨by rw [hE];decide,rfl⟩⟩
theorem zFU (p:Nat) (pub vars:Int) (A:Option vx) (n c:Nat) (rows:List sc) (bl bw qs:Int) (w:vu) (hr:RSl 3 yg w [ve A n c] rows) :
  vA prog 55 (Uv p pub vars A n c bl bw qs) w fun e w'=>FU p pub vars rows bl bw qs e /\ vz w.1.size w w':=by
 cases ht:Jd p pub vars rows
 ·exact (zFY p pub vars A n c rows bl bw qs w hr ht).mono fun _ _ h=>⟨zFc ht h.1,h.2⟩
 ·exact (zFV p pub vars A n c rows bl bw qs w hr ht).mono fun _ _ h=>⟨zFd ht h.1,h.2⟩
def Ge (f:Nat -> Int):Nat -> Int
 | 0=>0
 | n+1=>Ge f n+f n
theorem VM (a:Nat -> Int) (x:Int):∀ n,Dc a x n=Ge (fun i=>a i*x^i) n
 | 0=>rfl
 | n+1=>by rw [Dc,Ge,VM a x n]
theorem zAX {p:Nat} {f g:Nat -> Int}:∀ n,(∀ i,i<n -> Cg p (f i) (g i)) -> Cg p (Ge f n) (Ge g n)
 | 0,_=>Cg.rfl'
 | n+1,h=>(zAX n fun i hi=>h i zO).add (h n zO)
theorem nY (c:Int) (f:Nat -> Int):∀ n,c*Ge f n=Ge (fun i=>c*f i) n
 | 0=>by simp [Ge]
 | n+1=>by rw [Ge,Ge,Int.mul_add,nY c f n]
theorem zAW (f g:Nat -> Int):∀ n,Ge (fun i=>f i+g i) n=Ge f n+Ge g n
 | 0=>rfl
 | n+1=>by rw [Ge,Ge,Ge,zAW f g n];omega
theorem FQ:∀ n,Ge (fun _=>0) n=0
 | 0=>rfl
 | n+1=>by rw [Ge,FQ n];rfl
theorem oY (f:Nat -> Nat -> Int) (m:Nat):∀ n,Ge (fun i=>Ge (fun k=>f i k) m) n=Ge (fun k=>Ge (fun i=>f i k) n) m
 | 0=>by simp only [Ge];rw [FQ]
 | n+1=>by
  rw [Ge,oY f m n,<- zAW]
  rfl
theorem zH3 {p n q:Nat} {f:Nat -> Int} {y:Int} (hq:q<n) (h0:∀ k,k<n -> k≠q -> Cg p (f k) 0) (h1:Cg p (f q) y):Cg p (Ge f n) y:=by
 induction n with
 | zero=>omega
 | succ n ih =>
  rw [Ge];by_cases e:q=n
  ·subst e
   have hz:Cg p (Ge f q) (Ge (fun _=>0) q):=zAX q fun i hi=>h0 i zO zO
   rw [FQ] at hz;exact (hz.add h1).trans (Cg.of_eq zO)
  ·exact ((ih zO fun k hk db=>h0 k zO db).add (h0 n zO zO)).trans (Cg.of_eq zO)
theorem N0:∀ n:Nat,Dc (fun _=>1) 1 n=(n:Int)
 | 0=>rfl
 | n+1=>by rw [Dc,N0 n,Int.one_pow];omega
theorem I4 {p j:Nat} {w v:Int} (hw:Cg p (w^(2^(j-1))) (-1)) (hv:Cg p (w*v) 1):Cg p (v^(2^(j-1))) (-1):=by
 have h1:=hv.pow (2^(j-1));rw [Int.mul_pow,Int.one_pow] at h1;have h2:=((hw.mul (Cg.rfl' (x:=v^(2^(j-1))))).symm.trans h1).neg;exact Cg.trans (Cg.of_eq zO) h2
theorem xS {p:Nat} {w v:Int} (hv:Cg p (w*v) 1) (q:Nat):Cg p (v^q*w^q) 1:=by
 rw [<- Int.mul_pow,Rp v w];exact (hv.pow q).trans (Cg.of_eq Int.one_pow)
theorem zEf {p n j:Nat} (m:Nat -> Int) (w v s:Int) (hn:n=2^j) (hw:j=0 \/ Cg p (w^(2^(j-1))) (-1)) (hv:Cg p (w*v) 1) (hs:Cg p ((n:Int)*s) 1) (q:Nat) (hq:q<n) :
  Cg p (Dc (fun i=>s*Dc m (v^i) n) (w^q) n) (m q):=by
 have hx:∀ k,k<n -> k≠q -> Cg p (Dc (fun _=>1) (v^k*w^q) n) 0:=by
  intro k hk db;have hj:j≠0:=by rintro rfl;omega
  have xl:Cg p (w^(2^(j-1))) (-1):=hw.resolve_left hj;rcases Nat.lt_or_gt_of_ne db with h | h
  ·have e:Cg p (v^k*w^q) (w^(q-k)):=by
    obtain ⟨d,rfl⟩:∃ d,q=k+d:=⟨q-k,zO⟩;rw [Nat.add_sub_cancel_left,Int.pow_add,<- Ks];exact ((xS hv k).mul Cg.rfl').trans (Cg.of_eq (Ls _))
   rw [hn];exact (Ny (fun _=>Cg.rfl') e _).trans (zAs xl zO zO)
  ·have e:Cg p (v^k*w^q) (v^(k-q)):=by
    obtain ⟨d,rfl⟩:∃ d,k=q+d:=⟨k-q,zO⟩;rw [Nat.add_sub_cancel_left,Int.pow_add,Ks,Rp (v^d),<- Ks];exact ((xS hv q).mul Cg.rfl').trans (Cg.of_eq (Ls _))
   rw [hn];exact (Ny (fun _=>Cg.rfl') e _).trans (zAs (I4 xl hv) zO zO)
 have qi:Cg p (Dc (fun _=>1) (v^q*w^q) n) (n:Int):=(Ny (fun _=>Cg.rfl') (xS hv q) n).trans (Cg.of_eq (N0 n))
 have e1:Dc (fun i=>s*Dc m (v^i) n) (w^q) n=Ge (fun k=>s*m k*Dc (fun _=>1) (v^k*w^q) n) n:=by
  rw [VM];have e2:(fun i=>s*Dc m (v^i) n*(w^q)^i)=fun i=>Ge (fun k=>s*m k*(v^k*w^q)^i) n:=by
   funext i
   rw [VM,Rp (s*_),<- Ks,nY]
   congr 1
   funext k
   rw [Int.mul_pow,<- Yk (a:=v),<- Yk (a:=v),xg i k]
   grind
  rw [e2,oY]
  congr 1
  funext k
  rw [VM,nY]
  congr 1
  funext i
  rw [Ls]
 rw [e1];refine zH3 hq (fun k hk db=>?_) ?_
 ·exact (Cg.rfl'.mul (hx k hk db)).trans (Cg.of_eq (Int.mul_zero _))
 ·refine (Cg.rfl'.mul qi).trans (Cg.trans (Cg.of_eq (y:=(n:Int)*s*m q) (by grind)) ?_)
  exact (hs.mul Cg.rfl').trans (Cg.of_eq (Ls _))
theorem P5 {p n j:Nat} (l:List Nat) (h:jc p=true) (hn:fl p n) (hj:n=2^j) {i:Nat} (hi:i<n) :
  Cg p (uu p n j l i:Int) (((n^(p-2)%p:Nat):Int)*Dc (fun k=>((l.getD k 0:Nat):Int)) (((Tg p n^(p-2)%p:Nat):Int)^i) n):=by
 have hp:=Cc h;have hv:j=0 \/ Cg p (((Tg p n^(p-2)%p:Nat):Int)^(2^(j-1))) (-1):=(PX h hn hj).imp id fun h1=>I4 h1 (UW h hn)
 have h1:=RR p zO j (bM p l) (Tg p n^(p-2)%p) hv i zO;rw [<- hj] at h1;refine (Cg.mod _).trans ?_;rw [Vh,Rp];exact Cg.rfl'.mul (h1.trans (Ny (fun k=>Cg.mod _) Cg.rfl' n))
theorem G0 {p:Nat} {a b:Nat -> Int} (x:Int):∀ n,(∀ i,i<n -> Cg p (a i) (b i)) -> Cg p (Dc a x n) (Dc b x n)
 | 0,_=>Cg.rfl'
 | n+1,h=>(G0 x n fun i hi=>h i zO).add ((h n zO).mul Cg.rfl')
theorem zEd {p n j:Nat} (l:List Nat) (h:jc p=true) (hn:fl p n) (hj:n=2^j) {q:Nat} (hq:q<n) :
  Cg p (Dc (fun i=>(uu p n j l i:Int)) ((Tg p n:Int)^q) n) ((l.getD q 0:Nat):Int) :=
 (G0 _ n fun _ hi=>P5 l h hn hj hi).trans (zEf (fun k=>((l.getD k 0:Nat):Int)) _ _ _ hj (PX h hn hj) (UW h hn) (zEj h hj) q hq)
theorem S0 {a b:Nat -> Int} (x:Int):∀ n,(∀ i,i<n -> a i=b i) -> Dc a x n=Dc b x n
 | 0,_=>rfl
 | n+1,h=>by rw [Dc,Dc,S0 x n fun i hi=>h i zO,h n zO]
theorem R0 (a:Nat -> Nat) (k v:Nat) (x:Int):∀ n,k<n -> Dc (fun i=>(sg a k v i:Int)) x n=Dc (fun i=>(a i:Int)) x n+((v:Int)-a k)*x^k
 | 0,h=>zO
 | n+1,h=>by
  rw [Dc,Dc];by_cases e:k=n
  ·subst e
   rw [S0 (b:=fun i=>(a i:Int)) x k fun i hi=>by simp only [sg];rw [Gb zO]]
   simp only [sg,if_true]
   grind
  ·rw [R0 a k v x n zO]
   simp only [sg];rw [Gb zO];omega
theorem zBq {p b:Nat} (hp:0<p) (hb:0<b) (l:List Nat):∀ i k,Cg p (Ek p b l i k:Int) ((if b <= k /\ k<b+i then ((l.getD (k-b) 0:Nat):Int) else 0)-(if k<i then ((l.getD k 0:Nat):Int) else 0))
 | 0,k=>by
  rw [Gb zO,Gb zO];exact Cg.of_eq rfl
 | i+1,k=>by
  have ih:=zBq hp hb l i;rw [Ek];simp only [sg];by_cases h1:k=b+i
  ·subst h1
   rw [Lb rfl,Gb zO,Lb zO,Nat.add_sub_cancel_left];have h:=ih (b+i);rw [Gb zO] at h;refine (Cg.mod _).trans (Cg.trans (Cg.of_eq (Hw _ _)) ?_);by_cases h2:b+i<i+1
   ·omega
   ·rw [Gb h2]
    rw [Gb zO] at h;exact (h.add Cg.rfl').trans (Cg.of_eq zO)
  ·rw [Gb h1]
   by_cases h2:k=i
   ·subst h2
    rw [Lb rfl,Lb (show k<k+1 by omega)]
    have h:=ih k;rw [Gb (by omega:¬k<k)] at h
    refine (Cg.mod _).trans (Cg.trans (Cg.of_eq (Hw _ _)) ?_);have e:(if b <= k /\ k<b+(k+1) then ((l.getD (k-b) 0:Nat):Int) else 0)=(if b <= k /\ k<b+k then ((l.getD (k-b) 0:Nat):Int) else 0):=by
     by_cases h3:b <= k
     ·rw [Lb zO,Lb zO]
     ·rw [Gb zO,Gb zO]
    rw [e];exact (h.add (dQ p _ hp)).trans (Cg.of_eq zO)
   ·rw [Gb h2]
    have h:=ih k;refine h.trans (Cg.of_eq ?_)
    congr 1
    ·by_cases h3:b <= k /\ k<b+i
     ·rw [Lb h3,Lb zO]
     ·rw [Gb h3,Gb zO]
    ·by_cases h3:k<i
     ·rw [Lb h3,Lb zO]
     ·rw [Gb h3,Gb zO]
theorem SY (p b i:Nat):(Ih p b).getD i 0=if i<b+1 then SD p b i else 0:=wt _ _ _
theorem O7 {p b:Nat} (hp:1<p) (hb:0<b) (m:List Nat) (i:Nat):∀ j,j<b -> Cg p ((Dj p (Ih p b) m (j+1)).getD i 0:Int) (-((m.getD i 0:Nat):Int))
 | 0,_=>by
  have hz:(Ih p b).getD 0 0=p-1:=by rw [SY,Lb zO];rfl
  rw [Dj,Ow,AQ,Gb zO,eM,hz];have e0:(Dj p (Ih p b) m 0).getD i 0=0:=by rw [Dj];rfl
  rw [e0,Nat.sub_zero];refine (Cg.mod _).trans ?_;rw [Re];refine (Cg.mod _).trans ?_;rw [Vh];have h1:Cg p ((p-1:Nat):Int) (-1):=⟨1,zO⟩;exact ((Cg.rfl' (x:=((m.getD i 0:Nat):Int))).mul h1).trans (Cg.of_eq zO)
 | j+1,hj=>by
  have hz:(Ih p b).getD (j+1) 0=0:=by
   rw [SY,Lb zO,SD,Gb zO,Gb zO]
  rw [zE5 _ _ _ _ hz];exact (Cg.mod _).trans (O7 hp hb m i j zO)
theorem zE7 {p b:Nat} (hp:1<p) (hb:0<b) (m:List Nat) (i:Nat):Cg p ((Dg p (Ih p b) m).getD i 0:Int) ((if b <= i then ((m.getD (i-b) 0:Nat):Int) else 0)-((m.getD i 0:Nat):Int)):=by
 have hz:(Ih p b).getD b 0=1:=by rw [SY,Lb zO,SD,Gb zO,Lb rfl]
 obtain ⟨c,rfl⟩:∃ c,b=c+1:=⟨b-1,zO⟩;rw [Dg,qG,Dj,Ow,AQ,eM,hz,Ns];have h:=O7 hp hb m i c zO;refine (Cg.mod _).trans (Cg.trans (Cg.of_eq (Hw _ _)) ?_);by_cases h1:i<c+1
 ·rw [Lb h1,Gb zO]
  exact (h.add Cg.rfl').trans (Cg.of_eq zO)
 ·rw [Gb h1,Lb zO]
  exact (h.add (Cg.mod _)).trans (Cg.of_eq zO)
theorem P7 {p b:Nat} (hp:1<p) (hb:0<b) (m:List Nat) (i:Nat):(Dg p (Ih p b) m).getD i 0=Ek p b m m.length i:=by
 refine Cg.eq (p:=p) ((zE7 hp hb m i).trans (Cg.trans (Cg.of_eq ?_) (zBq zO hb m m.length i).symm)) (zE6 zO _ _ _ _) (OI zO _ _ _)
 congr 1
 ·by_cases h1:b <= i
  ·rw [Lb h1]
   by_cases h2:i<b+m.length
   ·rw [Lb ⟨h1,h2⟩]
   ·rw [Gb zO,rH zO];rfl
  ·rw [Gb h1,Gb zO]
 ·by_cases h1:i<m.length
  ·rw [Lb h1]
  ·rw [Gb h1,rH zO];rfl
theorem KV {p a b:Nat}:∀ k,Cg p (pH p a b k:Int) ((a:Int)*b^k)
 | 0=>Cg.of_eq (by rw [pH,Int.pow_zero,Int.mul_one])
 | k+1=>by
  rw [pH];refine (Cg.mod _).trans ?_;rw [Vh,Zk,<- Ks];exact (KV k).mul Cg.rfl'
theorem gV {p s n:Nat} (k:Nat):Cg p (Zp p s n k:Int) ((s:Int)*(Tg p n:Int)^k):=(KV k).trans ((Cg.mod s).mul Cg.rfl')
theorem nV (a:Nat -> Int) (x:Int):∀ n,Dc a x (n+1)=a 0+x*Dc (fun i=>a (i+1)) x n
 | 0=>by simp [Dc]
 | n+1=>by
  rw [Dc,nV a x n,Dc,Zk]
  grind
theorem p5 {p x:Nat}:∀ l:List Nat,Cg p (Mr p x l:Int) (Dc (fun i=>((l.getD i 0:Nat):Int)) (x:Int) l.length)
 | []=>Cg.rfl'
 | c :: l=>by
  rw [Mr,Yh,nV];refine (Cg.mod _).trans (Cg.trans (Cg.of_eq (Hw _ _)) ?_);refine (((Cg.mod (Mr p x l*x)).trans (Cg.trans (Cg.of_eq (Vh _ _)) ((p5 l).mul Cg.rfl'))).add Cg.rfl').trans (Cg.of_eq ?_);show Dc (fun i=>((l.getD i 0:Nat):Int)) (x:Int) l.length*(x:Int)+c=(c:Int)+x*Dc (fun i=>((l.getD i 0:Nat):Int)) (x:Int) l.length
  rw [Rp,Int.add_comm]
theorem n9 {p x:Nat}:∀ k,Cg p (Cl p x k:Int) ((x:Int)^k)
 | 0=>Cg.rfl'
 | k+1=>by
  rw [Cl];refine (Cg.mod _).trans ?_;rw [Vh,Zk];exact (n9 k).mul Cg.rfl'
theorem T0 {p x:Nat} (l:List Nat):∀ k,Cg p (evS p l (Cl p x) k:Int) (Dc (fun i=>((l.getD i 0:Nat):Int)) (x:Int) k)
 | 0=>Cg.rfl'
 | k+1=>by
  rw [evS,Dc];refine (Cg.mod _).trans (Cg.trans (Cg.of_eq (Hw _ _)) ?_);refine (T0 l k).add ((Cg.mod _).trans ?_);rw [Vh];exact Cg.rfl'.mul (n9 k)
theorem W0 {p x:Nat} (l:List Nat):Cg p (RC p l x:Int) (Dc (fun i=>((l.getD i 0:Nat):Int)) (x:Int) l.length):=T0 l _
theorem Y0 {p:Nat} (hp:0<p) (l:List Nat) (x:Nat):RC p l x<p:=by
 rw [RC];cases l.length with
 | zero=>exact hp
 | succ k=>exact Sc _ hp
theorem zEi {p n i:Nat} {w v:Int} (h1:Cg p (w^n) 1) (h2:Cg p (w*v) 1) (hi:i<n):Cg p (w^((n-i)%n)) (v^i):=by
 have h3:Cg p (w^((n-i)%n)*w^i) 1:=by
  rcases Jn i with h | h
  ·subst h
   rw [Nat.sub_zero,Nat.mod_self];exact Cg.of_eq zS
  ·rw [Lk zO,<- Int.pow_add,show n-i+i=n by omega]
   exact h1
 have h4:=xS h2 i;have h5:Cg p (w^((n-i)%n)) (w^((n-i)%n)*(v^i*w^i)):=(Cg.of_eq (Int.mul_one _).symm).trans (Cg.rfl'.mul h4.symm);refine h5.trans ((Cg.of_eq ?_).trans ((h3.mul Cg.rfl').trans (Cg.of_eq (Ls _))));rw [Rp (v^i),Ks]
theorem L5 {p j:Nat} (l:List Nat) (h:jc p=true) (hn:fl p l.length) (hj:l.length=2^j) {i:Nat} (hi:i<l.length):tu p l 1 i=uu p l.length j l i:=by
 have hp:=Cc h;refine Cg.eq (p:=p) ?_ (Sc _ zO) (Sc _ zO);refine Cg.trans ?_ (P5 l h hn hj hi).symm;refine (Cg.mod _).trans ?_;rw [Vh,Rp];have e1:(1%p)^(p-2)%p=1:=by rw [Lk (show 1<p by omega),Nat.one_pow,Lk zO]
 rw [e1];refine Cg.mul ((KV i).trans (Cg.of_eq ?_)) ?_
 ·rw [show ((1:Nat):Int)=1 from rfl,Int.one_pow,Int.mul_one]
 ·rw [SW]
  refine (p5 l).trans (Ny (fun _=>Cg.rfl') ?_ _)
  refine (gV _).trans (Cg.trans (Cg.of_eq ?_) (zEi (QX h hn) (UW h hn) hi));exact Ls _
def OS (L:Tb) (msg Xe:List Nat):List Nat:=(List.range (L.block+Xe.length)).map (Qx L msg Xe)
def JN (L:Tb) (q:List Nat):List Nat:=(List.range (L.block+q.length)).map (Ek L.p L.block q q.length)
theorem zAw {L:Tb} (hL:Ad L) {msg Xe:List Nat} (h1:msg.length=L.block) (h2:Xe.length=L.queries):Sx L msg Xe=OS L msg Xe:=by
 have hp:=Cc hL.p;have hb:=hL.b1;have hk:=hL.k;obtain ⟨hlen,j,hj⟩:=EL hL;have jN:L.block.log2=j:=by rw [hj];exact Nat.log2_two_pow
 have Gi:(Sx L msg Xe).length=L.block+Xe.length:=by
  rw [Sx,lQ];have h3:=Pw L.p ((List.range msg.length).map (tu L.p msg 1)) (Dg L.p (Ih L.p L.block) Xe);have h4:=uD L.p (Ih L.p L.block) Xe;rw [qG] at h4;rw [Tm,Sp] at h3;omega
 refine BI (by rw [Gi,OS,Tm,Sp]) fun i hi=>?_
 rw [Gi] at hi;rw [Sx,jQ,Ow,wt,P7 zO zO,OS,wt,Lb hi,Qx,oQ];by_cases h3:i<L.block
 ·rw [Lb zO,Lb h3,jN,L5 (j:=j) msg hL.p (by rw [h1];exact hlen) (by rw [h1];exact hj) zO,h1,Nat.add_comm]
 ·rw [Gb zO,Gb h3,Re]
  exact Lk (OI zO _ _ _)
theorem sT {L:Tb} (hL:Ad L) {q:List Nat} (h:q.length=L.block+2*L.queries-1):Ck L q=JN L q:=by
 have hp:=Cc hL.p;have hb:=hL.b1;have hk:=hL.k;have Gi:(Ck L q).length=L.block+q.length:=by
  rw [Ck,lQ];have h4:=uD L.p (Ih L.p L.block) q;rw [qG] at h4;omega
 refine BI (by rw [Gi,JN,Tm,Sp]) fun i hi=>?_
 rw [Gi] at hi;rw [Ck,jQ,P7 zO zO,JN,wt,Lb hi]
theorem zHt {p n:Nat} (h:jc p=true) (hn:fl p n) (k:Nat):Cg p (((Tg p n:Int)^k)^n) 1:=by
 rw [<- Yk,xg,Yk];exact ((QX h hn).pow k).trans (Cg.of_eq Int.one_pow)
theorem zCI {p n k:Nat}:Cg p (Zp p 1 n k:Int) ((Tg p n:Int)^k):=gV k |>.trans (Cg.of_eq (Ls _))
theorem zGn {p n:Nat} {x:Int} (h:Cg p (x^n) 1) (i:Nat):Cg p (x^i) (x^(i%n)):=by
 have e:=FA i n;rw [<- e];rw [Int.pow_add,Yk,Nat.mul_add_mod,Nat.mod_mod];exact ((h.pow _).mul Cg.rfl').trans (Cg.of_eq (by rw [Int.one_pow,Ls]))
theorem eZ {p n:Nat} (hn:0<n) (l:List Nat) (s:Nat) (x:Int) (hx:Cg p (x^n) 1):∀ i,Cg p (Dc (fun k=>(Kn p n l s i k:Int)) x n) (Dc (fun k=>((l.getD k 0:Nat):Int)) ((s:Int)*x) i)
 | 0=>by
  refine Cg.of_eq ?_;show Dc (fun k=>((0:Nat):Int)) x n=0
  rw [VM,<- FQ n]
  congr 1
  funext k
  simp
 | i+1=>by
  have ih:=eZ hn l s x hx i;rw [Kn,R0 _ _ _ _ _ (Sc _ hn),Dc];refine ih.add ?_;have h1:Cg p (((Kn p n l s i (i%n)+l.getD i 0*Du p s i%p)%p:Nat)-(Kn p n l s i (i%n):Int)) (((l.getD i 0:Nat):Int)*(s:Int)^i):=by
   have h2:Cg p ((l.getD i 0*Du p s i%p:Nat):Int) (((l.getD i 0:Nat):Int)*(s:Int)^i):=(Cg.mod _).trans (Cg.trans (Cg.of_eq (Vh _ _)) (Cg.rfl'.mul (lT p s i)));have h3:=((Cg.mod (p:=p) (Kn p n l s i (i%n)+l.getD i 0*Du p s i%p)).trans (Cg.trans (Cg.of_eq (Hw _ _)) (Cg.rfl'.add h2))).add (Cg.rfl' (x:=-(Kn p n l s i (i%n):Int)));exact Cg.trans (Cg.of_eq zO) (h3.trans (Cg.of_eq zO))
  refine (h1.mul (zGn hx i).symm).trans (Cg.of_eq ?_);rw [Int.mul_pow,Ks]
theorem pV {p n j s k:Nat} (h:jc p=true) (hn:fl p n) (hj:n=2^j) (l:List Nat) (hk:k<n):Il p n j l s k=RC p l (Zp p s n k):=by
 have hp:=Cc h;refine Cg.eq (p:=p) ?_ (qV zO _ _ _ _ _) (Y0 zO _ _);have h1:=RR p zO j (Kn p n l (s%p) l.length) (Tg p n) (PX h hn hj) k (by rw [<- hj];exact hk)
 rw [<- hj] at h1;refine h1.trans ((eZ hn.pos l _ _ (zHt h hn k) _).trans (Cg.trans ?_ (W0 l).symm));exact Ny (fun _=>Cg.rfl') ((((Cg.mod s).mul Cg.rfl')).trans (gV k).symm) _
theorem zCz (B:Nat) (v:List Nat) (n:Nat):(ir B v n).length=n:=by simp [ir]
theorem Jy (B:Nat) (l:Nat -> List Nat) (ps:Nat -> Nat):∀ i,(Yp B l ps (i+1)).length=(Yp B l ps i).length+ps i:=fun i=>by rw [eV,qh,zCz]
theorem bQ (L:Tb) (rows:List sc) (ws:List Nat) (pu:Nat):(tz L rows ws pu).length=L.a+L.b+L.b+L.b:=by
 unfold tz ar;rw [Jy,Jy,Jy,Jy];show 0+L.a+L.b+L.b+L.b=_
 omega
theorem dV {B:Nat} {l:Nat -> List Nat} {ps:Nat -> Nat} {r:List Nat} (h:r∈ar B l ps):∃ i k,i<4 /\ k<ps i /\ r=QC B (l i) k:=by
 unfold ar Yp at h;obtain ⟨i,hi,hr⟩:=List.mem_flatMap.1 h;obtain ⟨k,hk,rfl⟩:=ee.1 hr;exact ⟨i,k,Mj.1 hi,Mj.1 hk,rfl⟩
theorem J7 {L:Tb} {rows:List sc} {ws:List Nat} {pu:Nat} {r:List Nat} (h:r∈tz L rows ws pu):r.length=L.block:=by
 obtain ⟨i,k,-,-,rfl⟩:=dV h;simp [QC]
theorem aK {l:List Nat} {p:Nat} (hp:0<p) (h:∀ x∈l,x<p) (i:Nat):l.getD i 0<p:=by
 rw [Hc];cases e:l[i]? with
 | none=>exact hp
 | some x=>exact h x (List.mem_of_getElem? e)
def NL (ts:List (Int × Nat)):List Nat:=ts.flatMap fun t=>[t.1.toNat,t.2]
def GB (ts:List (Int × Nat)):List Nat:=ts.length :: NL ts
def wN (r:sc):List Nat:=GB (Od r 0)++GB (Od r 1)++GB (Od r 2)
def Wm (p:Nat) (pub vars:Int) (rows:List sc):List Nat:=[p,pub.toNat,vars.toNat,rows.length]++rows.flatMap wN
def ur (p:Nat) (pub vars:Int) (rows:List sc):Nat:=if Jd p pub vars rows then Dk 21 (Wm p pub vars rows) else 0
def eG (p:Nat) (pub vars:Int) (rows:List sc) (i:Nat):List Nat:=[p,pub.toNat,vars.toNat,rows.length]++(rows.take i).flatMap wN
def YL (base:List Nat) (r:sc):Nat -> List Nat
 | 0=>base
 | j+1=>YL base r j++GB (Od r j)
def NB (base:List Nat) (ts:List (Int × Nat)) (t:Nat):List Nat:=base++ts.length :: NL (ts.take t)
theorem u9 (p:Nat) (pub vars:Int) (rows:List sc) {i:Nat} (h:i<rows.length):eG p pub vars rows (i+1)=YL (eG p pub vars rows i) rows[i] 3:=by
 unfold eG;rw [Cy h,List.flatMap_append];simp [YL,wN]
theorem B9 (base:List Nat) (ts:List (Int × Nat)):NB base ts ts.length=base++GB ts:=by simp [NB,GB]
theorem D9 (base:List Nat) (ts:List (Int × Nat)):NB base ts 0=base++[ts.length]:=by simp [NB,NL]
theorem C9 (base:List Nat) (ts:List (Int × Nat)) {t:Nat} (h:t<ts.length):NB base ts (t+1)=NB base ts t++[(ts.getD t (0,0)).1.toNat,(ts.getD t (0,0)).2]:=by
 unfold NB NL;rw [Cy h,List.flatMap_append,Hc,Ec h];simp
theorem K6 (ts:List (Int × Nat)):(NL ts).length=2*ts.length:=by
 induction ts with
 | nil=>rfl
 | cons t ts ih =>
  show ([t.1.toNat,t.2]++NL ts).length=_
  rw [qh,ih];simp
  omega
theorem L6 (base:List Nat) (ts:List (Int × Nat)) {t:Nat} (h:t <= ts.length):(NB base ts t).length=base.length+1+2*t:=by
 unfold NB;rw [qh,Yh,K6,List.length_take,Nat.min_eq_left h];omega
theorem s9 (p:Nat) (pub vars:Int) (rows:List sc):eG p pub vars rows rows.length=Wm p pub vars rows:=by simp [eG,Wm]
theorem Z9 (A:Option vx) (n c m:Nat) (l:List Nat) (w:vu) (hl:RWd w [ve A n c] l) (hn:n <= 100000) (hm:m <= 100000) :
  vA prog 235 #[ve A n c,vd vq m] w fun e w'=>∃ v,e=vn v /\ w'.ownsRow w.1.size 22 1 v (Gh l m).length (Qa (Gh l m)) /\ vz w.1.size w w':=by
 obtain ⟨rfl,h1,h2,ya,Na⟩:=Pb hl;have ma:=zA w (.cells #[] 22);have HS:=zH (show ∀ k,l++List.replicate k 0++[0]=l++List.replicate (k+1) 0 from fun k=>by rw [zy,List.replicate_succ'])
 have HP:=zH (show Gh l m=l++List.replicate (m-l.length) 0 from rfl)
 rw [HP.out];obtain ⟨f,hf⟩:=zEX (fun k=>l++List.replicate k 0)
 have H0:=zH (show f 0=l by rw [hf];simp)
 have HF:=zH (show ∀ k,f k++[0]=f (k+1) from fun k=>by rw [hf];exact HS.out k)
 rw [show l++List.replicate (m-l.length) 0=f (m-l.length) by rw [hf]]
 clear HS HP hf ya h1 h2 hl;go_enter func235,ntmps235
 go_wp2_with (at_builtin;refine Wd rfl _ _ rfl jg rfl (Zr w 22 zR) rfl (Na.alloc _) (De l) zO zS ?_)
 intro v1 w1 oa Ma Cb;have hB:=ie (Zr w 22 zR) Ma zS;replace hB:=ma.trans hB;obtain ⟨t,ht⟩:=zEX (l.length);have Zs:w1.ownsRow w.1.size 22 1 v1 t (Qa (f 0)):=by
  rw [H0.out,ht];simpa using oa
 have HT:=zH ht;clear Ma Cb oa ma ht Na;go_wp2_with fail
 go_loopw [5] (fun v wr=>∃ k s:Nat,Hid (s=t+k /\ (k=0 \/ s <= m)) /\ s <= 200000 /\ wr.ownsRow w.1.size 22 1 v s (Qa (f k)) /\ vz w.1.size w wr) (fun v _=>match v with | ve _ n _=>m-n | _=>0)
 case atStart=>exact ⟨0,t,zH ⟨rfl, .inl rfl⟩,by have:=HT.out;omega,Zs,hB⟩
 case round =>
  clear Zs hB;obtain ⟨k,s,HK,hs,oa,hb⟩:=hrel;obtain ⟨A1,c1,rfl,-⟩:=Yb oa;by_cases ya:s<m
  ·have g1:(s:Int)<m:=by omega
   have Vg:=zH (HF.out k);go_wp2_with (at_builtin;refine Wd rfl _ _ rfl jg rfl (oa.alloc _) rfl (gg _ _ _) (De [0]) zO (by simp;have:=hb.size;omega) ?_)
   intro v' wn Ua Ma Cb;have ma:=zA wr (.cells #[vd vo (0:Int)] 22);have hB:=ie (oa.alloc _) Ma (by simp;have:=hb.size;omega)
   replace hb:=(Nk hb ma hb.size).trans hB;replace oa:wn.ownsRow w.1.size 22 1 v' (s+1) (Qa (f (k+1))):=Qi (b:=[0]) Ua Vg.out;clear Ua Ma Cb ma hB;obtain ⟨A2,c2,rfl,-⟩:=Yb oa;go_wp2
   go_roundw
   case rel=>exact ⟨k+1,s+1,zH (zQ HK.out),zO,oa,hb⟩
   case measure=>simp;omega
  ·have g1:¬((s:Int)<m):=by omega
   have HE:=zH (show f k=f (m-l.length) by
    have h:=HK.out;have h2:=HT.out;rcases h.2 with h3 | h3
    ·rw [h3,show m-l.length=0 by omega]
    ·rw [show k=m-l.length by omega])
   rw [HE.out] at oa;have qA:=zH (show (f (m-l.length)).length=s by
    have:=oa.1
    simpa [Qa] using this)
   go_wp2;go_ret
   exact ⟨_,rfl,by rw [qA.out];exact oa,hb⟩
theorem zAd (L:Tb) (A B:Option vx) (n c m d:Nat) (msg Xe:List Nat) (w:vu) (hL:Ad L) (hl:RWd w [ve A n c] msg) (hk:RWd w [ve B m d] Xe) (hn:n=L.block) (hm:m <= 30000) :
  vA prog 156 #[vf (Ub L),ve A n c,ve B m d] w fun e w'=>∃ v,e=vn v /\ w'.ownsRow w.1.size 22 1 v (Sx L msg Xe).length (Qa (Sx L msg Xe)) /\ vz w.1.size w w':=by
 obtain ⟨Sd,Vb⟩:=Cc hL.p;have Fa:=hL.b2;have og:L.k <= 400:=by have:=hL.k;have:=hL.q2;omega
 obtain ⟨hlen,-⟩:=EL hL;have mf:=(Pb hk).1;have Lr:=(Pb hl).1;subst hn;have HI:=zH (fun w' (hb:vz w.1.size w w')=>V9 L.p 1 L.block A c msg w' hL.p (Wa hb hl) hlen (by rw [Lk zO];decide))
 have HZ:=zH (fun w=>JX L w hL)
 have HM:=zH (fun A n c w' (hb:vz w.1.size w w') ha hn=>rQ L.p A B n c m d (Ih L.p L.block) Xe w' hL.p ha (Wa hb hk) hn zO)
 have HA:=zH (fun A B n c m d a b w ha hb hn hm=>aM L.p A B n c m d a b w hL.p ha hb hn hm)
 have HP:=zH (fun A n c l w hl hn=>Z9 A n c L.k l w hl hn zO)
 have HIL:=zH (show ∀ x∈(List.range L.block).map (tu L.p msg 1),x<18446744073709551616 from fun x hx=>by
  obtain ⟨i,-,rfl⟩:=ee.1 hx;exact Je (O5 zO _ _ _) Vb)
 have HR:=zH (show Sx L msg Xe=Gh (Mg L.p ((List.range L.block).map (tu L.p msg 1)) (Dg L.p (Ih L.p L.block) Xe)) L.k by rw [Sx,<- Lr])
 rw [HR.out];have h1:=zH (show (Dg L.p (Ih L.p L.block) Xe).length <= 40000 by have:=uD L.p (Ih L.p L.block) Xe;rw [qG] at this;omega)
 have h2:=zH (show (Mg L.p ((List.range L.block).map (tu L.p msg 1)) (Dg L.p (Ih L.p L.block) Xe)).length <= 40000 by have:=Pw L.p ((List.range L.block).map (tu L.p msg 1)) (Dg L.p (Ih L.p L.block) Xe);rw [Tm,Sp] at this;have:=h1.out;omega)
 have h3:=zH (qG L.p L.block);have h4:L.block <= 256:=Fa;generalize Dg L.p (Ih L.p L.block) Xe=M at *;generalize (List.range L.block).map (tu L.p msg 1)=I at *;clear HR hL hl hk hlen mf Lr Sd Vb og Fa hm;unfold Ub at *;obtain ⟨kl,da⟩:=zN w 35 #[vd vo L.p,vd vq L.block,vd vq L.queries,vd vq L.k,vd vq L.n,vd vq L.secret,vd vq L.rows,vd vq L.a,vd vq L.b,vd vq L.b,vd vq L.b];go_enter func156,ntmps156
 go_wp2_with fail
 generalize w.alloc _=w1 at kl da |-;refine (HI.out _ da).mono ?_;rintro e w2 ⟨v1,rfl,oa,Ca⟩;replace kl:=pa kl Ca;replace da:=ta da Ca;clear Ca;obtain ⟨A1,c1,rfl,-⟩:=Yb oa;have hI:=Sf oa HIL.out;clear oa HIL HI;have cl:=kl.cell;have ll:=kl.lt;go_upto_region 2 with fail
 refine Pd (Rc) [6,8,9,12] [0,1,2,3,4,5,7,10,11,6,8,9,12,13] zK zK ?_;refine oe (Da) ?_;intro Wc Ga ja;have Pa:=Uf Ga;replace da:=ta da Pa;replace hI:=Wa Pa hI;refine Mc ?_;refine ud Da rfl rfl rfl ((HZ.out _).mono ?_);rintro e w3 ⟨v3,rfl,hZ,Ra⟩;refine ⟨_,rfl,Ra,?_⟩;replace ja:=zM Da ja (Ra);refine zPU ?_;replace da:=ta da Ra;replace hI:=Wa Ra hI;obtain ⟨A3,c3,rfl⟩:=eh hZ;refine Mc ?_;refine ud Da rfl rfl rfl ((HM.out _ _ _ _ da hZ (by rw [h3.out];omega)).mono ?_)
 rintro e w4 ⟨v4,rfl,hM,Ib⟩;refine ⟨_,rfl,Ib,?_⟩;replace ja:=zM Da ja (Ib);refine zPU ?_;replace da:=ta da Ib;replace hI:=Wa Ib hI;obtain ⟨A4,c4,rfl⟩:=eh hM;refine Mc ?_;refine ud Da rfl rfl rfl ((HA.out _ _ _ _ _ _ _ _ _ hI hM zO (zQ h1.out)).mono ?_);rintro e w5 ⟨v5,rfl,hA,Bb⟩;refine ⟨_,rfl,Bb,?_⟩;replace ja:=zM Da ja (Bb);refine zPU ?_;replace da:=ta da Bb;obtain ⟨A5,c5,rfl⟩:=eh hA;refine Mc ?_;have Ix:=da.size;refine ud Da rfl rfl rfl ((HP.out _ _ _ _ _ hA (zQ h2.out)).mono ?_);rintro e w6 ⟨v6,rfl,hP,Lc⟩;refine ⟨_,rfl,Lc,?_⟩;replace ja:=zM Da ja (Lc);refine zPU ?_;replace da:=ta da Lc;refine Mc ?_;refine Vc ?_;go_wp2;go_ret
 exact ⟨_,rfl,Hg hP Ix,da⟩
theorem zG7 (L:Tb) (v0 v1 v2 v4:vw) (B:Option vx) (m d:Nat) (q:List Nat) (w:vu) (hL:Ad L) (g0:slc v0) (g1:slc v1) (g2:slc v2) (g4:slc v4) (hk:RWd w [ve B m d] q) (hm:m <= 30000) :
  vA prog 159 #[vf (Ub L),vf #[v0,v1,v2,ve B m d,v4]] w fun e w'=>∃ v,e=vn v /\ w'.ownsRow w.1.size 22 1 v (Ck L q).length (Qa (Ck L q)) /\ vz w.1.size w w':=by
 obtain ⟨Sd,Vb⟩:=Cc hL.p;have Fa:=hL.b2;have og:L.k <= 400:=by have:=hL.k;have:=hL.q2;omega
 have Dm:2 <= L.k:=by have:=hL.k;have:=hL.b1;omega
 have mf:=(Pb hk).1;obtain ⟨A0,n0,c0,rfl⟩:=g0;obtain ⟨A1,n1,c1,rfl⟩:=g1;obtain ⟨A2,n2,c2,rfl⟩:=g2;obtain ⟨A4,n4,c4,rfl⟩:=g4;obtain ⟨t,ht⟩:=zEX (2*L.k-1);obtain ⟨u,hu⟩:=zEX (2*L.k);have HZ:=zH (fun w=>JX L w hL)
 have HM:=zH (fun A n c w' (hb:vz w.1.size w w') ha hn=>rQ L.p A B n c m d (Ih L.p L.block) q w' hL.p ha (Wa hb hk) hn zO)
 have HP:=zH (fun A n c l w hl hn=>Z9 A n c t l w hl hn zO)
 have HR:=zH (show Ck L q=Gh (Dg L.p (Ih L.p L.block) q) t by rw [Ck,ht])
 rw [HR.out];have h1:=zH (show (Dg L.p (Ih L.p L.block) q).length <= 40000 by have:=uD L.p (Ih L.p L.block) q;rw [qG] at this;omega)
 have h3:=zH (qG L.p L.block);have h4:L.block <= 256:=Fa;have e1:(2:Int)*L.k=(u:Int):=by omega
 have e2:=Xd u;have e3:(u:Int)-1=(t:Int):=by omega
 have e4:=Xd t;generalize Dg L.p (Ih L.p L.block) q=M at *;clear HR hL hk mf Sd Vb og Dm Fa hm ht hu;unfold Ub at *;obtain ⟨kl,kc,da,-⟩:=Xf w 35 41 #[vd vo L.p,vd vq L.block,vd vq L.queries,vd vq L.k,vd vq L.n,vd vq L.secret,vd vq L.rows,vd vq L.a,vd vq L.b,vd vq L.b,vd vq L.b] #[ve A0 n0 c0,ve A1 n1 c1,ve A2 n2 c2,ve B m d,ve A4 n4 c4];go_enter func159,ntmps159
 go_upto_region 1 with fail
 generalize (w.alloc _).alloc _=w2 at kl kc da |-;have cl:=kl.cell;have ll:=kl.lt;have cc:=kc.cell;have lc:=kc.lt;refine Pd (Rc) [3,6,11] [0,1,2,4,5,7,8,9,10,3,6,11,12] zK zK ?_;refine oe (Da) ?_;intro Wc Ga ja;have Pa:=Uf Ga;replace da:=ta da Pa;refine Mc ?_;refine ud Da rfl rfl rfl ((HZ.out _).mono ?_);rintro e w3 ⟨v3,rfl,hZ,Ra⟩;refine ⟨_,rfl,Ra,?_⟩;replace ja:=zM Da ja (Ra);refine zPU ?_;replace da:=ta da Ra;obtain ⟨A3,c3,rfl⟩:=eh hZ;refine Mc ?_;refine ud Da rfl rfl rfl ((HM.out _ _ _ _ da hZ (by rw [h3.out];omega)).mono ?_)
 rintro e w4 ⟨v4,rfl,hM,Ib⟩;refine ⟨_,rfl,Ib,?_⟩;replace ja:=zM Da ja (Ib);refine zPU ?_;replace da:=ta da Ib;obtain ⟨A5,c5,rfl⟩:=eh hM;refine Mc ?_;have Ix:=da.size;refine ud Da rfl rfl rfl ((HP.out _ _ _ _ _ hM (zQ h1.out)).mono ?_);rintro e w6 ⟨v6,rfl,hP,Lc⟩;refine ⟨_,rfl,Lc,?_⟩;replace ja:=zM Da ja (Lc);refine zPU ?_;replace da:=ta da Lc;refine Mc ?_;refine Vc ?_;go_wp2;go_ret
 exact ⟨_,rfl,Hg hP Ix,da⟩
theorem dT {l:List Nat} {B n:Nat} (hB:0<B) (h:∀ x∈l,x<B):∀ x∈Gh l n,x<B:=fun x hx=>by
 rcases Tp.1 hx with h' | h'
 ·exact h x h'
 ·rw [(List.mem_replicate.1 h').2];exact hB
theorem N7 {p:Nat} (hp:0<p) {a b:List Nat} {x:Nat} (h:x∈Dg p a b):x<p:=by
 unfold Dg at h;cases e:a.length with
 | zero=>rw [e] at h;cases h
 | succ k=>rw [e,Dj] at h;exact TT hp h
theorem zHB {w u:vu} {v:vw} {l:List Nat} (h:RWd w [v] l) (ha:∀ b,b<w.1.size -> u.1[b]?=w.1[b]?):RWd u [v] l:=by
 obtain ⟨A,n,c,he,h1,h2,h3,h4⟩:=h;refine ⟨A,n,c,he,h1,h2,⟨h3.1,fun h0=>?_⟩,h4⟩
 obtain ⟨ad,e,hc⟩:=h3.2 h0;refine ⟨ad,e,fun j x hj=>?_⟩
 have hx:=hc j x hj;have hb:=Bg _ _ hx;rw [<- hx];unfold World.cell?;rw [ha _ hb]
theorem zHD {w0 w:vu} {gb:Option Nat} {v:vw} {l:List Nat} (h:RWd w0 [v] l) (hb:vz w0.1.size w0 w) (hg:∀ q,gb=vD q -> w0.1.size <= q):sh 0 gb w v l:=fun u hu =>
 zHB h fun b ya=>(hu b (Qb _) (We ya hb.size) fun e=>by have:=hg b e.symm;omega).trans (hb.block b ya)
def OC (l:List Nat) (i:Nat):Int:=((l.getD i 0:Nat):Int)
def Br (l:List Nat) (x:Int):Int:=Dc (OC l) x l.length
theorem J0 {a:Nat -> Int} {x:Int} {m:Nat} (h:∀ i,m <= i -> a i=0):∀ t,Dc a x (m+t)=Dc a x m
 | 0=>rfl
 | t+1=>by
  rw [<- Nat.add_assoc,Dc,J0 h t,h (m+t) zO,Int.zero_mul,Int.add_zero]
theorem TO (l:List Nat) (x:Int) {n:Nat} (h:l.length <= n):Dc (OC l) x n=Br l x:=by
 obtain ⟨t,rfl⟩:∃ t,n=l.length+t:=⟨n-l.length,zO⟩;exact J0 (fun i hi=>by rw [OC,rH hi];rfl) t
theorem lV (a b:Nat -> Int) (x:Int):∀ n,Dc (fun i=>a i+b i) x n=Dc a x n+Dc b x n
 | 0=>rfl
 | n+1=>by rw [Dc,Dc,Dc,lV a b x n,Int.add_mul];omega
theorem mV (c:Int) (a:Nat -> Int) (x:Int):∀ n,Dc (fun i=>c*a i) x n=c*Dc a x n
 | 0=>by rw [Dc,Dc,Int.mul_zero]
 | n+1=>by rw [Dc,Dc,mV c a x n,Int.mul_add,Ks]
theorem zCX {p:Nat} (a b:List Nat) (x:Int):Cg p (Br (Mg p a b) x) (Br a x+Br b x):=by
 have hl:=Pw p a b;rw [<- TO (Mg p a b) x (n:=max a.length b.length) hl,<- TO a x (n:=max a.length b.length) zO,<- TO b x (n:=max a.length b.length) zO,<- lV];refine Ny (fun i=>?_) Cg.rfl' _
 unfold OC;rw [Ow];exact (Cg.mod _).trans (Cg.of_eq (Hw _ _))
theorem zCZ {p:Nat} (a:List Nat) (n:Nat) (x:Int):Cg p (Br (dm p a n) x) ((n:Int)*Br a x):=by
 rw [<- TO (dm p a n) x (JD p a n),Br,<- mV];refine Ny (fun i=>?_) Cg.rfl' _
 unfold OC;rw [eM];exact (Cg.mod _).trans (Cg.of_eq (by rw [Vh,Rp]))
theorem I0 (a:Nat -> Int) (x:Int) (k:Nat) (h:∀ i,i<k -> a i=0):∀ n,Dc a x (k+n)=x^k*Dc (fun i=>a (k+i)) x n
 | 0=>by
  show Dc a x k=x^k*0
  rw [Int.mul_zero,VM,<- FQ k];have:∀ n,n <= k -> Ge (fun i=>a i*x^i) n=Ge (fun _=>0) n:=fun n=>by
   induction n with
   | zero=>exact fun _=>rfl
   | succ n ih=>intro hn;rw [Ge,Ge,ih zO,h n zO,Int.zero_mul]
  exact this k zR
 | n+1=>by
  rw [<- Nat.add_assoc,Dc,I0 a x k h n,Dc,Int.mul_add,Int.pow_add]
  congr 1
  rw [<- Ks,<- Ks,Rp (a (k+n))]
theorem zC0 (a:List Nat) (k:Nat) (x:Int):Br (Ux a k) x=x^k*Br a x:=by
 have e:(Ux a k).length=k+a.length:=eY a k;unfold Br;rw [e,I0 _ _ k (fun i hi=>by unfold OC;rw [AQ,Lb hi];rfl)]
 congr 2
 funext i
 unfold OC;rw [AQ,Gb zO,Nat.add_sub_cancel_left]
theorem U0 {p:Nat} (a b:List Nat) (x:Int):∀ k,Cg p (Br (Dj p a b k) x) (Dc (OC a) x k*Br b x)
 | 0=>Cg.of_eq (by rw [Dj,Dc,Int.zero_mul];rfl)
 | k+1=>by
  rw [Dj,Dc,Int.add_mul];refine (zCX _ _ x).trans ((U0 a b x k).add ?_);rw [zC0];refine (Cg.rfl'.mul (zCZ b _ x)).trans (Cg.of_eq ?_);rw [<- Ks,Rp (x^k)]
  rfl
theorem zCY {p:Nat} (a b:List Nat) (x:Int):Cg p (Br (Dg p a b) x) (Br a x*Br b x):=U0 a b x _
theorem X0 {p x:Nat} (l:List Nat):Cg p (RC p l x:Int) (Br l x):=W0 l
def Km (a:Nat -> Int) (r:Int) (n i:Nat):Int:=Dc (fun j=>a (i+j)) r (n-i)
theorem I9 (a:Nat -> Int) (r:Int) {n i:Nat} (h:i<n):Km a r n i=a i+r*Km a r n (i+1):=by
 unfold Km;rw [show n-i=(n-(i+1))+1 by omega,nV]
 rw [Oo]
 congr 3
 funext j
 congr 1
 omega
theorem J9 (a:Nat -> Int) (r x:Int) (n:Nat):∀ m,m <= n -> Dc a x m=Km a r n 0+(x-r)*Dc (fun i=>Km a r n (i+1)) x m-Km a r n m*x^m
 | 0,_=>by rw [Dc,Dc,Int.mul_zero,Int.pow_zero];omega
 | m+1,h=>by
  rw [Dc,J9 a r x n m zO,Dc,I9 a r (i:=m) zO,Zk]
  grind
theorem zGB (a:Nat -> Int) (r x:Int) (n:Nat):Dc a x (n+1)=Dc a r (n+1)+(x-r)*Dc (fun i=>Km a r (n+1) (i+1)) x n:=by
 have h:=J9 a r x (n+1) (n+1) zR;have h1:Km a r (n+1) (n+1)=0:=by unfold Km;rw [Nat.sub_self];rfl
 have h0:Km a r (n+1) 0=Dc a r (n+1):=by
  unfold Km;rw [Nat.sub_zero]
  congr 1
  funext j
  rw [Re]
 rw [h1,h0,Int.zero_mul,Int.sub_zero] at h;have e:Dc (fun i=>Km a r (n+1) (i+1)) x (n+1)=Dc (fun i=>Km a r (n+1) (i+1)) x n:=by rw [Dc,h1,Int.zero_mul,Int.add_zero]
 rw [h,e]
theorem lZ {p:Nat} (h:jc p=true):∀ (n:Nat) (a:Nat -> Int) (xs:Nat -> Int),(∀ i j,i<n -> j<n -> i≠j -> ¬Cg p (xs i) (xs j)) -> (∀ k,k<n -> Cg p (Dc a (xs k) n) 0) -> ∀ i,i<n -> Cg p (a i) 0
 | 0,_,_,_,_=>fun i hi=>absurd hi (Nat.not_lt_zero _)
 | n+1,a,xs,hx,hr=>by
  have hq:∀ i,i<n -> Cg p (Km a (xs n) (n+1) (i+1)) 0:=lZ h n (fun i=>Km a (xs n) (n+1) (i+1)) xs (fun i j hi hj db=>hx i j zO zO db) fun k hk=>by
   have h1:=hr k zO;rw [zGB a (xs n) (xs k) n] at h1;have h2:=hr n zO;have h3:Cg p ((xs k-xs n)*Dc (fun i=>Km a (xs n) (n+1) (i+1)) (xs k) n) 0:=by
    have:=(h1.trans h2.symm);obtain ⟨c,hc⟩:=this;exact ⟨c,by rw [<- hc];omega⟩
   rcases zE8 h h3 with h4 | h4
   ·exact absurd (by obtain ⟨c,hc⟩:=h4;exact ⟨c,by rw [<- hc];omega⟩) (hx k n zO zO zO)
   ·exact h4
  have hq':∀ i,i<n+1 -> Cg p (Km a (xs n) (n+1) (i+1)) 0:=fun i hi=>by
   rcases Zj i n with h1 | h1
   ·exact hq i h1
   ·have e:i=n:=by omega
    subst e;unfold Km;rw [Nat.sub_self];exact Cg.rfl'
  have h0:Cg p (Km a (xs n) (n+1) 0) 0:=by
   have e:Km a (xs n) (n+1) 0=Dc a (xs n) (n+1):=by
    unfold Km;rw [Nat.sub_zero]
    congr 1
    funext j
    rw [Re]
   rw [e];exact hr n zO
  intro i hi;have hs:=I9 a (xs n) hi;have h1:Cg p (Km a (xs n) (n+1) i) 0:=by
   cases i with
   | zero=>exact h0
   | succ i=>exact hq' i zO
  rw [hs] at h1;have h2:=(Cg.rfl' (p:=p) (x:=xs n)).mul (hq' i hi);rw [Int.mul_zero] at h2;obtain ⟨c,hc⟩:=h1;obtain ⟨d,hd⟩:=h2;exact ⟨c-d,by rw [Int.mul_sub,<- hc,<- hd];omega⟩
theorem zHI {p n:Nat} (h:jc p=true) {a b:Nat -> Int} {xs:Nat -> Int} (hx:∀ i j,i<n -> j<n -> i≠j -> ¬Cg p (xs i) (xs j)) (hv:∀ k,k<n -> Cg p (Dc a (xs k) n) (Dc b (xs k) n)):∀ i,i<n -> Cg p (a i) (b i):=fun i hi=>by
 have:=lZ h n (fun i=>a i+(-1)*b i) xs hx (fun k hk=>by
  rw [lV,mV];exact ((hv k hk).add (Cg.rfl' (x:=(-1)*Dc b (xs k) n))).trans (Cg.of_eq zO)) i hi
 obtain ⟨c,hc⟩:=this;exact ⟨c,by rw [<- hc];omega⟩
theorem P8 {w w':vu} {base:Nat} {e:vy} {size:Nat} {v:vw} {n:Nat} {xs:List vw} {u:Option Nat} (h:w.ownsRow base e size v n xs) (hg:w.grownBy w' u) (db:∀ q,v.ownBlock=vD q -> u=vD q -> False):w'.ownsRow base e size v n xs:=by
 have ya:=h.lt;obtain ⟨h1,h2⟩:=h;refine ⟨h1,?_⟩;rcases h2 with h2 | ⟨g,cap,cur,hv,Cm,hh,r⟩
 ·exact Or.inl h2
 ·exact Or.inr ⟨g,cap,cur,hv,Cm,by rw [hg.block g (Yx.1 hh).1 (fun e=>db g (by rw [hv];rfl) e.symm)];exact hh,r⟩
theorem xR {w:vu} {base:Nat} {e:vy} {size:Nat} {x x' y:vw} {n:Nat} {ys:List vw} (hy:w.ownsRow base e size y n ys) (Xt:∀ q,x.ownBlock=vD q -> y.ownBlock=vD q -> False) (hb:x'.ownBlock=x.ownBlock \/ x'.ownBlock=vD w.1.size):∀ q,x'.ownBlock=vD q -> y.ownBlock=vD q -> False:=fun q h1 h2=>by
 rcases hb with e | e
 ·exact Xt q (e ▸ h1) h2
 ·have:=(hy.lt q h2).2
  rw [e] at h1;have:=Nb h1;omega
theorem YX {w:vu} {base n:Nat} {v:vw} {l:List Nat} (h:w.ownsRow base 22 1 v n (Qa l)) (hl:∀ x∈l,x<18446744073709551616):∃ A c,v=ve A n c /\ RWd w [ve A n c] l:=by
 obtain ⟨A,c,rfl,-⟩:=Yb h;exact ⟨A,c,rfl,Sf h hl⟩
theorem zEZ (n:Nat) (hn:n <= 1000000) (w:vu) :
  (Instr.makeSlice 39 (vd vq 0) (vd vq n)).run prog w= .ok (ve (vD ⟨w.1.size,0,vB⟩) 0 n) (w.alloc (.cells (Ki n fun _=>ve vB 0 0) 28)):=by
 obtain ⟨ht,⟨i,hi,hz,hs,jF⟩,vL,Db⟩:=So;have:=run_make (P:=prog) w 39 28 i _ ht hi hz vq vq 0 (n:Int) zO zO (by rw [jF];omega) zO
 rw [En,hs,u7] at this;exact this
theorem zFH (n base:Nat) (hn:n <= 1000000) (w:vu) (hb:base <= w.1.size):(w.alloc (.cells (Ki n fun _=>ve vB 0 0) 28)).ownsRow base 28 1 (ve (vD ⟨w.1.size,0,vB⟩) 0 n) 0 [] :=
 World.ownsRow_made w _ n hb (by simp [maxLen];omega) (by simp [Ki])
theorem zEN (L:Tb) (A0 A1 A2 A3 A4 AM:Option vx) (n0 n1 n2 n3 n4 nM c0 c1 c2 c3 c4 cM:Nat) (m r:List (List Nat)) (co li qu:List Nat) (w:vu) (hL:Ad L)
  (hm:Kd w [ve AM nM cM] m) (hr:Kd w [ve A0 n0 c0] r) (hc:RWd w [ve A1 n1 c1] co) (hl:RWd w [ve A2 n2 c2] li) (hq:RWd w [ve A3 n3 c3] qu)
  (hlen:m.length=r.length) (mf:∀ x∈m,x.length=L.block) (Pe:∀ x∈r,x.length <= 2000) (hT:m.length <= 400000) (h1:co.length <= 2000) (h2:li.length <= 2000) (h3:qu.length <= 2000) :
  vA prog 60 #[vf (Ub L),ve AM nM cM,vf #[ve A0 n0 c0,ve A1 n1 c1,ve A2 n2 c2,ve A3 n3 c3,ve A4 n4 c4]] w fun e w'=>∃ v,e=vn v /\ ((∀ q,v.ownBlock=vD q -> w.1.size <= q) /\ ∀ u:vu,(∀ b,w.1.size <= b -> b<w'.1.size -> u.1[b]?=w'.1[b]?) -> Kd u [v] ((List.range L.n).map fun i=>(List.range (m.length+3)).map (QM L (FD L m r co li qu) i))) /\ vz w.1.size w w':=by
 have hp:=hL.p;have Og:=Cc hp;have Fa:=hL.b2;obtain ⟨az,-,-,mK⟩:=Ig hm;obtain ⟨Mv,-,-,Le⟩:=Ig hr;subst az;subst Mv;have Yi:=Z8 L m r co li qu;have Rk:=zGj (L:=L) (m:=m) (r:=r) (c:=co) (l:=li) (q:=qu) Fa Pe h1 h2 h3;have HEv:=zH (fun A k c l w hl hk=>rY L.p A k c L.n L.n.log2 (pc L.p).1 l w hp hl (DS hL).1 (DS hL).2 (C4 hp) hk)
 have HGen:=zH (fun w=>Z0 L.p w hp)
 have HCV:=zH (show ∀ ps i,(List.range (m.length+3)).map (QM L ps i)=(List.range (m.length+3)).map (fun j=>Il L.p L.n L.n.log2 (ps.getD j []) (pc L.p).1 i) from fun _ _=>rfl)
 have pE:=zH (fun A B n c m d msg Xe w hl hk hn hm=>Y6 L A B n c m d msg Xe w hL hl hk hn hm)
 have fy:=zH (fun w' (hb:vz w.1.size w w')=>S6 L (ve A0 r.length c0) (ve A2 n2 c2) (ve A3 n3 c3) (ve A4 n4 c4) A1 n1 c1 co w' ⟨_,_,_,rfl⟩ ⟨_,_,_,rfl⟩ ⟨_,_,_,rfl⟩ ⟨_,_,_,rfl⟩ (Wa hb hc) (zQ ((Pb hc).1)))
 have Gs:=zH (fun w' (hb:vz w.1.size w w')=>V6 L (ve A0 r.length c0) (ve A1 n1 c1) (ve A3 n3 c3) (ve A4 n4 c4) A2 n2 c2 li w' hL ⟨_,_,_,rfl⟩ ⟨_,_,_,rfl⟩ ⟨_,_,_,rfl⟩ ⟨_,_,_,rfl⟩ (Wa hb hl) (zQ ((Pb hl).1)))
 have EG:=zH (fun w' (hb:vz w.1.size w w')=>X6 L (ve A0 r.length c0) (ve A1 n1 c1) (ve A2 n2 c2) (ve A4 n4 c4) A3 n3 c3 qu w' hL ⟨_,_,_,rfl⟩ ⟨_,_,_,rfl⟩ ⟨_,_,_,rfl⟩ ⟨_,_,_,rfl⟩ (Wa hb hq) (zQ ((Pb hq).1)))
 have CP:=(Pb hc).2.2.2.1;have zh:=(Pb hl).2.2.2.1;have e1:=(Pb hc).1;have e2:=(Pb hl).1;have e3:=(Pb hq).1;have tc:=zH (And.intro CP zh);subst e1 e2 e3;clear CP zh hc hl hq hm hr;have Kg:=zH hlen;have Np:=zH mf;have Vf:=zH Pe;have mJ:=zH Og;have HL:=zH hL;have Ce:=hL.n2;have hmin:min (m.length:Int) (r.length:Int)=m.length:=Int.min_eq_left zO;obtain ⟨T,Qy⟩:=zEX (m.length);obtain ⟨M,WA⟩:=zEX (m.length+3);have x1:(m.length:Int)+3=(M:Int):=by omega
 have x2:=Xd M;have x3:(M:Int) <= 400003:=by omega
 have x4:(0:Int)<=M:=by omega
 have x5:(m.length:Int) <= 400000:=by omega
 have lK:M <= 400003:=by omega
 have hM1':M <= 1000000:=by omega
 rw [<- WA];have BG:=zH WA;rw [<- WA] at Yi HCV;obtain ⟨ps,ku⟩:=zEX (FD L m r co li qu);rw [<- ku] at Yi Rk |-;have HPE:=zH (show dG L m r m.length++[co,Qh L li,rT L qu]=ps from ku.symm)
 have lh:=zH Yi;have im:=zH Rk;replace HCV:=zH (HCV.out ps);clear ku Yi Rk;obtain ⟨gen,hgen⟩:=zEX ((pc L.p).1);rw [<- hgen] at HEv HGen HCV;clear hgen;have HFF:=zH (show ∀ k q,Il L.p L.n L.n.log2 (ps.getD q []) gen k<18446744073709551616 from fun k q=>Je (qV (zQ mJ.out) _ _ _ _ _) mJ.out.2)
 have mk0:=zEZ M zO;have mkC:=F7 L.n zO;have mkM:=Rv M zO;clear hlen mf Pe Og hL hp WA Qy;unfold Ub fv at *;obtain ⟨kl,kc,kf,da,Db⟩:=Sw w 101 41 224 #[vd vo L.p,vd vq L.block,vd vq L.queries,vd vq L.k,vd vq L.n,vd vq L.secret,vd vq L.rows,vd vq L.a,vd vq L.b,vd vq L.b,vd vq L.b] #[ve A0 r.length c0,ve A1 co.length c1,ve A2 li.length c2,ve A3 qu.length c3,ve A4 n4 c4] #[vd vo L.p];go_enter func60,ntmps60
 go_upto_region 2 with fail
 generalize ((w.alloc _).alloc _).alloc _=w1 at kl kc kf da Db |-;have HZ:=zH Db;clear Db;have cc:=kc.cell;go_upto_region 3 with fail
 have oa:=zFH M w1.1.size hM1' w1 zR;have ma:=zA w1 (.cells (Ki M fun _=>ve vB 0 0) 28)
 have Uo:w1.1.size <= (w1.alloc (.cells (Ki M fun _=>ve vB 0 0) 28)).1.size:=ma.size
 replace kl:=pa kl ma;replace kc:=pa kc ma;replace kf:=pa kf ma;replace da:=ta da ma;clear ma cc mk0;obtain ⟨N,pk⟩:=zEX (w1.1.size);have xN:w.1.size+3 <= N:=by rw [pk,HZ.out];omega
 rw [<- pk] at oa Uo |-;clear pk HZ;generalize w1.alloc _=w2 at kl kc kf da oa Uo |-;have cc:=kc.cell;go_wp2_with fail
 clear cc;go_loopw [8,31] (fun u y wr=>∃ (i:Nat) (v:vw) (cs:List vw),v=u /\ i <= m.length /\ y=vd vq i /\ Blk wr w.1.size 101 #[vd vo L.p,vd vq L.block,vd vq L.queries,vd vq L.k,vd vq L.n,vd vq L.secret,vd vq L.rows,vd vq L.a,vd vq L.b,vd vq L.b,vd vq L.b] /\ Blk wr (w.1.size+1) 41 #[ve A0 r.length c0,ve A1 co.length c1,ve A2 li.length c2,ve A3 qu.length c3,ve A4 n4 c4] /\ Blk wr (w.1.size+1+1) 224 #[vd vo L.p] /\ wr.ownsRow N 28 1 v i cs /\ gh N wr v cs (dG L m r i) /\ vz w.1.size w wr /\ N <= wr.1.size) (fun _ y _=>m.length-(intOf y).toNat)
 case atStart=>exact ⟨0,_,[],rfl,Qb _,rfl,kl,kc,kf,oa,tH _ _ _,da,Uo⟩
 case round =>
  clear kl kc kf oa da Uo;obtain ⟨i,v,cs,rfl,hi,rfl,kl,kc,kf,oa,Ta,da,Jc⟩:=hrel;by_cases ya:i<m.length
  ·have q1:(0:Int)<=i:=by omega
   have q2:(i:Int)<m.length:=by omega
   have q3:(i:Int)<r.length:=by have:=Kg.out;omega
   obtain ⟨bm,qm,Am,lm,cm,rfl,mP,JH,nI⟩:=Dl mK ya;have ox:=(da.cell (p:=⟨bm,qm+i,vB⟩) mP).trans JH;have rp:=Wa da nI;have hbm:bm<N:=by omega
   obtain ⟨br,qr,Ar,lr,cr,rfl,nP,KH,oI⟩:=Dl Le (show i<r.length by have:=Kg.out;omega)
   have Gv:=(da.cell (p:=⟨br,qr+i,vB⟩) nP).trans KH;have Gm:=Wa da oI;have tb:br<N:=by omega
   have z1:=(Pb rp).1;have z2:=(Pb Gm).1;have z3:lm=L.block:=by have:=Np.out _ (Qe ya);omega
   have z4:lr <= 2000:=by have:=Vf.out _ (Qe (show i<r.length by have:=Kg.out;omega));omega
   have HC:=zH (fun w' (hb:vz wr.1.size wr w')=>pE.out Am Ar lm cm lr cr m[i] _ w' (Wa hb rp) (Wa hb Gm) z3 zO)
   have nJ:=zH (show (List.range (L.block+lr)).map (Qx L m[i] (r[i]'(zQ Kg.out)))=WL L m r i by
    unfold WL;rw [Hc,Hc,Ec ya,Ec (show i<r.length by have:=Kg.out;omega)]
    simp only [Option.getD_some]
    first | rw [z2] | rw [<- z2])
   have HMX:=zH (show ∀ k,Qx L m[i] (r[i]'(zQ Kg.out)) k<18446744073709551616 from fun k=>Je (I7 (zQ mJ.out) _ _ _) mJ.out.2)
   have iJ:=zH (zGh L m r i);revert HC nJ HMX
   generalize Qx L m[i] (r[i]'(zQ Kg.out))=PF;intro HC nJ HMX;clear z1 z2 z3 rp Gm nI oI JH KH;have n1:w.1.size<N:=by omega
   have n2:w.1.size+1<N:=by omega
   have cl:=kl.cell;have ll:=kl.lt;have cc:=kc.cell;have lc:=kc.lt;go_upto_region 6 with fail
   refine Pd (WB N) [11,12,13] [0,1,2,3,4,5,6,7,8,9,10,11,12,13,14] zK zK ?_;refine oe (Qf N) ?_;intro Wc Ga ja;refine nw ?_;have Pa:=Uf Ga;have Gc:=Pa.size;have hNw0:=Jc;refine ud (Qf N) rfl rfl rfl ((HC.out _ Pa).mono ?_);rintro e w3 ⟨g',rfl,LK,kg',Ra⟩;refine ⟨_,rfl,Xw Ra (jb hNw0 Gc),?_⟩;replace ja:=zM (Qf N) ja (Xw Ra (jb hNw0 Gc));refine zPU ?_;have Ib:=ta Pa Ra;have hNg:N <= g':=by omega
   have hvg:vD g'≠v.ownBlock:=fun e=>by have:=(oa.lt _ e.symm).2;omega
   replace kl:=pa kl Ib;replace kc:=pa kc Ib;replace kf:=pa kf Ib;replace oa:=Za oa Ib zR;replace Ta:=Ef Ta Ib;replace da:=ta da Ib;replace Jc:=jb Jc Ib.size;have hNd:=jb Gc Ra.size;have CF:sh N v.ownBlock w3 (ve (vD ⟨g',0,vB⟩) (L.block+lr) (L.block+lr)) (WL L m r i):=by
    rw [<- nJ.out];exact PN kg' (fun k _=>HMX.out k) (by simp [maxLen];omega) hNg hvg
   have HNd:=zH (And.intro hNd (show wr.1.size <= w3.1.size from Ib.size))
   clear kg' Ra Ib hNg hvg LK Gc Pa HC Ga ja cl ll cc lc hNd;have ja:=(Qf N).refl w3;refine nw ?_;refine ke (Qf N) rfl rfl rfl ?_;go_simp;refine ⟨Xw ((Kb _ _).alloc zR _) Jc,?_⟩;have ma:=zA w3 (.cells #[ve (vD ⟨g',0,vB⟩) (L.block+lr) (L.block+lr)] 28);have Na:=gg w3 (ve (vD ⟨g',0,vB⟩) (L.block+lr) (L.block+lr)) 28;replace CF:=Lm CF ma.size (fun b _ h2 _=>ma.block b h2)
   replace kl:=pa kl ma;replace kc:=pa kc ma;replace kf:=pa kf ma;replace oa:=Za oa ma zR;replace Ta:=Ef Ta ma;replace da:=ta da ma;replace Jc:=jb Jc ma.size;have HNe:=zH (jb HNd.out.2 ma.size)
   refine zPU ?_
   generalize w3.alloc _=w4 at kl kc kf oa Ta CF da Na Jc HNe |-;generalize w3.1.size=g7 at Na |-;clear ma HNd ja;have ja:=(Qf N).refl w4;refine nw ?_;refine ke (Qf N) rfl rfl rfl ?_;refine Cs _ _ rfl So rfl oa rfl Na (by intro u hu;simp at hu;subst hu;rfl) zO Jc ?_
   intro v' wn Ua Ma Cb;have uc:∀ q,v.ownBlock=vD q -> N <= q:=fun q e=>(oa.lt q e).1
   have VA:=ie oa Ma Jc;refine ⟨VA,?_⟩;have Ag:=YC Ta CF Ma Cb;rw [iJ.out] at Ag;replace kl:=kl.grown Ma (fun e=>by have:=uc _ e.symm;omega)
   replace kc:=kc.grown Ma (fun e=>by have:=uc _ e.symm;omega)
   replace kf:=kf.grown Ma (fun e=>by have:=uc _ e.symm;omega)
   replace da:=da.trans (VA.mono zO);have Ud:N <= wn.1.size:=by have:=Ma.size;omega
   clear oa Ta CF Ma Cb uc Na ja VA HNe Jc;have ja:=(Qf N).refl wn
   refine zPU ?_
   refine nw ?_;refine Vc ?_;go_wp2
   go_roundw
   case rel=>exact ⟨i+1,v',_,rfl,zO,by go_num,kl,kc,kf,Ua,Ag,da,Ud⟩
   case measure=>simp [intOf];omega
  ·obtain rfl:i=m.length:=by omega
   have g2:¬((m.length:Int)<m.length):=by omega
   clear mK Le pE;have cl:=kl.cell;have cc:=kc.cell;have n1:w.1.size<N:=by omega
   have n2:w.1.size+1<N:=by omega
   go_upto_region 8 with fail
   refine Pd (WB N) [3,6,9,10,11] [0,1,2,4,5,7,8,3,6,9,10,11,12] zK zK ?_;refine oe (Qf N) ?_;intro Wc Ga ja;refine nw ?_;have Pa:=Uf Ga;replace kl:=pa kl Pa;replace kc:=pa kc Pa;replace kf:=pa kf Pa;replace oa:=Za oa Pa zR;replace Ta:=Ef Ta Pa;replace da:=ta da Pa;replace Jc:=jb Jc Pa.size;clear Pa Ga cl cc;refine ud (Qf N) rfl rfl rfl ((fy.out _ da).mono ?_);rintro e w3 ⟨v1,rfl,o1,Ra⟩;refine ⟨_,rfl,Xw Ra Jc,?_⟩;replace ja:=zM (Qf N) ja (Xw Ra Jc);refine zPU ?_;have bh:∀ q,v.ownBlock=vD q -> q<Wc.1.size:=fun q e=>(oa.lt q e).2
   have ld:sh N v.ownBlock w3 v1 co:=Dz o1 tc.out.1 Jc bh;obtain ⟨A1',Lh,rfl,-⟩:=Yb o1;replace kl:=pa kl Ra;replace kc:=pa kc Ra;replace kf:=pa kf Ra;replace oa:=Za oa Ra zR;replace Ta:=Ef Ta Ra;replace da:=ta da Ra;replace Jc:=jb Jc Ra.size;clear Ra o1 ja bh;have ja:=(Qf N).refl w3;refine ud (Qf N) rfl rfl rfl ((Gs.out _ da).mono ?_);rintro e w4 ⟨v2,rfl,o2,Ib⟩;refine ⟨_,rfl,Xw Ib Jc,?_⟩;replace ja:=zM (Qf N) ja (Xw Ib Jc);refine zPU ?_;have Gf:∀ q,v.ownBlock=vD q -> q<w3.1.size:=fun q e=>(oa.lt q e).2
   have yf:sh N v.ownBlock w4 v2 (Qh L li):=Dz o2 (by
    have hp:=mJ.out;intro x hx;rcases Kk.1 hx with rfl | hx
    ·exact Je (rN zO _ _) hp.2
    ·exact tc.out.2 x hx) Jc Gf
   obtain ⟨A2',ai,rfl,-⟩:=Yb o2;replace ld:=Lm ld Ib.size (fun b _ h2 _=>Ib.block b h2)
   replace kl:=pa kl Ib;replace kc:=pa kc Ib;replace kf:=pa kf Ib;replace oa:=Za oa Ib zR;replace Ta:=Ef Ta Ib;replace da:=ta da Ib;replace Jc:=jb Jc Ib.size;clear Ib o2 ja Gf;have ja:=(Qf N).refl w4;refine ud (Qf N) rfl rfl rfl ((EG.out _ da).mono ?_);rintro e w5 ⟨g3,rfl,yh,k3,Bb⟩;refine ⟨_,rfl,Xw Bb Jc,?_⟩;replace ja:=zM (Qf N) ja (Xw Bb Jc);refine zPU ?_;have yp:vD g3≠v.ownBlock:=fun e=>by have:=(oa.lt _ e.symm).2;omega
   have Hm:sh N v.ownBlock w5 (ve (vD ⟨g3,0,vB⟩) (L.block+qu.length) (L.block+qu.length)) (rT L qu) :=
    PN k3 (fun k _=>Je (OI (zQ mJ.out) _ _ _) mJ.out.2) (by simp [maxLen];omega) zO yp
   replace ld:=Lm ld Bb.size (fun b _ h2 _=>Bb.block b h2)
   replace yf:=Lm yf Bb.size (fun b _ h2 _=>Bb.block b h2)
   replace kl:=pa kl Bb;replace kc:=pa kc Bb;replace kf:=pa kf Bb;replace oa:=Za oa Bb zR;replace Ta:=Ef Ta Bb;replace da:=ta da Bb;replace Jc:=jb Jc Bb.size;clear Bb k3 yh ja yp fy Gs EG kc;have ja:=(Qf N).refl w5;refine ke (Qf N) rfl rfl rfl ?_;go_simp;refine ⟨Xw ((Kb _ _).alloc zR _) Jc,?_⟩;have ma:=zA w5 (.cells #[ve A1' co.length Lh,ve A2' (li.length+1) ai,ve (vD ⟨g3,0,vB⟩) (L.block+qu.length) (L.block+qu.length)] 28);have Na:=zAl w5 (ve A1' co.length Lh) (ve A2' (li.length+1) ai) (ve (vD ⟨g3,0,vB⟩) (L.block+qu.length) (L.block+qu.length)) 28;replace ld:=Lm ld ma.size (fun b _ h2 _=>ma.block b h2)
   replace yf:=Lm yf ma.size (fun b _ h2 _=>ma.block b h2)
   replace Hm:=Lm Hm ma.size (fun b _ h2 _=>ma.block b h2)
   replace kl:=pa kl ma;replace kf:=pa kf ma;replace oa:=Za oa ma zR;replace Ta:=Ef Ta ma;replace da:=ta da ma;replace Jc:=jb Jc ma.size
   refine zPU ?_
   generalize w5.alloc _=w6 at kl kf oa Ta ld yf Hm da Na Jc |-;generalize w5.1.size=g7 at Na |-;clear ma ja;have ja:=(Qf N).refl w6;refine nw ?_;refine ke (Qf N) rfl rfl rfl ?_;refine Cs _ _ rfl So rfl oa rfl Na (by intro u hu;simp at hu;rcases hu with rfl | rfl | rfl <;> rfl) zO Jc ?_
   intro v' wn Ua Ma Cb;have uc:∀ q,v.ownBlock=vD q -> N <= q:=fun q e=>(oa.lt q e).1
   have VA:=ie oa Ma Jc;refine ⟨VA,?_⟩;have Ag:=G4 Ta ld yf Hm Ma Cb;replace kl:=kl.grown Ma (fun e=>by have:=uc _ e.symm;omega)
   replace kf:=kf.grown Ma (fun e=>by have:=uc _ e.symm;omega)
   replace da:=da.trans (VA.mono zO);have MP:=sH Ag Ua;clear oa Ta ld yf Hm Ma Cb uc Na ja VA Jc Ag;have ja:=(Qf N).refl wn
   refine zPU ?_
   refine nw ?_;refine Vc ?_;rw [HPE.out] at MP;rw [<- BG.out] at Ua;obtain ⟨Ap,cp,rfl,hcp,-⟩:=Yb Ua;clear Ua ja HPE BG Kg Np Vf tc;obtain ⟨-,-,ox,hPd⟩:=Ig MP;obtain ⟨gC,hgC⟩:=zEX (wn.1.size);have y0:w.1.size+3 <= gC:=by rw [hgC];have:=da.size;have:=kf.lt;omega
   have lM:M <= maxLen:=by simp [maxLen];omega
   have hmaxn:max (0:Int) (L.n:Int)=L.n:=Int.max_eq_right zO;have xn:(L.n:Int) <= 1024:=by omega
   have cl:=kl.cell;go_upto_region 10 with fail
   have kC:=Blk.new wn 28 (Ki L.n fun _=>ve vB 0 0)
   have ma:=zA wn (.cells (Ki L.n fun _=>ve vB 0 0) 28)
   have hs7:(wn.alloc (.cells (Ki L.n fun _=>ve vB 0 0) 28)).1.size=gC+1:=by rw [hgC];simp
   rw [<- hgC] at kC ma |-;clear cl mkC;generalize wn.alloc _=w7 at kC ma hs7 |-;rw [AV (g:=fun k=>if k<0 then qo M (gC+1+k) else ve vB 0 0) (fun k _=>zS)] at kC
   have HGC:=zH hgC;have HS7:=zH hs7;clear hgC hs7;go_wp2_with fail
   go_loopw [67] (fun y wr=>∃ i:Nat,i <= L.n /\ y=vd vq i /\ Blk wr gC 28 (Ki L.n fun k=>if k<i then qo M (gC+1+k) else ve vB 0 0) /\ Hid (∀ k,k<i -> Blk wr (gC+1+k) 22 (Ya M fun _=>0)) /\ Hid (wr.1.size=gC+1+i) /\ vz gC wn wr) (fun y _=>L.n-(intOf y).toNat)
   case atStart=>exact ⟨0,Qb _,rfl,kC,fun k h=>zO,HS7.out,ma⟩
   case round =>
    clear kC ma HS7;obtain ⟨i,hi,rfl,kC,HK,oC,Xi⟩:=hrel;by_cases ya:i<L.n
    ·have q1:(0:Int)<=i:=by omega
     have q2:(i:Int)<L.n:=by omega
     have cC:=kC.cell i;rw [zV _ ya,Gb (Nat.lt_irrefl i)] at cC;have lC:=kC.lt;have fC:=kC.frozen;go_wp2_with fail
     have Iv:=oC.out;rw [Iv];have hg:=Hh (w:=wr) gC i (qo M (gC+1+i));replace kC:=kC.set_ i (qo M (gC+1+i));rw [zDi,AV (g:=fun k=>if k<i+1 then qo M (gC+1+k) else ve vB 0 0) (fun k _=>by
      by_cases e:k=i
      ·subst e;simp
      ·rw [Gb e]
       by_cases e2:k<i
       ·rw [Lb e2,Lb zO]
       ·rw [Gb e2,Gb zO])] at kC
     have Qm:Hid (∀ k,k<i -> Blk (wr.setCell ⟨gC,i,vB⟩ (qo M (gC+1+i))) (gC+1+k) 22 (Ya M fun _=>0)):=fun k h=>(HK.out k h).grown hg (fun e=>by have:=Nb e;omega)
     have JW:(wr.setCell ⟨gC,i,vB⟩ (qo M (gC+1+i))).1.size=gC+1+i:=by simp [vE];exact Iv
     replace Xi:=Xi.trans (om hg (by have:=Xi.size;have:=HGC.out;omega) zR)
     clear hg HK Iv oC cC fC lC;generalize wr.setCell _ _=w8 at kC Qm JW Xi |-;have ma:=zA w8 (.cells (Ya M fun _=>0) 22)
     have kN:=Blk.new w8 22 (Ya M fun _=>0)
     have HSN:=zH (show (w8.alloc (.cells (Ya M fun _=>0) 22)).1.size=gC+1+(i+1) by simp;omega)
     rw [JW] at kN;replace kC:=pa kC ma;have xG:Hid (∀ k,k<i+1 -> Blk (w8.alloc (.cells (Ya M fun _=>0) 22)) (gC+1+k) 22 (Ya M fun _=>0)):=fun k h=>by
      by_cases e:k=i
      ·subst e;exact kN
      ·exact (Qm.out k zO).below ma (Qm.out k zO).lt
     replace Xi:=Xi.trans (ma.mono zO);clear ma kN Qm JW;generalize w8.alloc _=w9 at kC xG HSN Xi |-
     go_roundw
     case rel=>exact ⟨i+1,zO,by go_num,kC,xG,HSN,Xi⟩
     case measure=>simp [intOf];omega
    ·obtain rfl:i=L.n:=by omega
     rw [AV (g:=fun k=>qo M (gC+1+k)) (fun k hk=>Lb hk)] at kC
     have hs9:gC+1+L.n <= wr.1.size:=by rw [oC.out];omega
     have Qm:Hid (∀ k,k<L.n -> Blk wr (gC+1+k) 22 (Ya M fun q=>if q<0 then Il L.p L.n L.n.log2 (ps.getD q []) gen k else 0)):=fun k h=>by
      have:=HK.out k h;rw [iq (g:=fun q=>if q<0 then Il L.p L.n L.n.log2 (ps.getD q []) gen k else 0) (fun q _=>zS)] at this
      exact this
     clear HK oC mkM;go_wp2_with fail
     go_loopw [79] (fun y wr=>∃ j:Nat,j <= M /\ y=vd vq j /\ Blk wr gC 28 (Ki L.n fun k=>qo M (gC+1+k)) /\ Hid (∀ k,k<L.n -> Blk wr (gC+1+k) 22 (Ya M fun q=>if q<j then Il L.p L.n L.n.log2 (ps.getD q []) gen k else 0)) /\ gC+1+L.n <= wr.1.size /\ vz gC wn wr) (fun y _=>M-(intOf y).toNat)
     case atStart=>exact ⟨0,Qb _,rfl,kC,Qm,hs9,Xi⟩
     case round =>
      clear kC Qm hs9 Xi;obtain ⟨j,hj,rfl,kC,HK,Db,Xi⟩:=hrel;by_cases ya:j<M
      ·have q1:(0:Int)<=j:=by omega
       have q2:(j:Int)<M:=by omega
       obtain ⟨bp,qp,Aj,lj,cj,rfl,hbp,hcp',hrp⟩:=Dl hPd (show j<ps.length by rw [lh.out];exact ya)
       have VV:bp<gC:=by rw [HGC.out];exact hbp
       have Yt:=(Xi.cell (p:=⟨bp,qp+j,vB⟩) VV).trans hcp';have hbn2:vz wn.1.size wn wr:=by rw [<- HGC.out];exact Xi
       have hrj:=Wa hbn2 hrp;have PK:ps[j]'(by rw [lh.out];exact ya)=ps.getD j []:=by rw [Hc,Ec];rfl
       have bn:lj <= 8192:=by have h1:=im.out _ (Qe (show j<ps.length by rw [lh.out];exact ya));have h2:=(Pb hrp).1;omega
       rw [PK] at hrj;have HE:=zH (fun w' (hb:vz wr.1.size wr w')=>HEv.out Aj lj cj (ps.getD j []) w' (Wa hb hrj) bn)
       have kl':=kl.below Xi (show w.1.size<gC by omega)
       have LF:=kf.below Xi (show w.1.size+1+1<gC by omega)
       have cl:=kl'.cell;have ll:=kl'.lt;have cf:=LF.cell;have lf:=LF.lt;clear hcp' hrp hrj PK hbn2;have hbpw:bp<wr.1.size:=by omega
       go_upto_region 18 with fail
       refine Pd (Rc) [3,6] [0,1,2,4,5,3,6,7,8,9,10,11] zK zK ?_;refine oe (Da) ?_;intro Wc Ga ja;refine Mc ?_;have Pa:=Uf Ga;refine ud Da rfl rfl rfl ((HGen.out _).mono ?_);rintro e w3 ⟨rfl,Ra⟩;refine ⟨_,rfl,Ra,?_⟩;replace ja:=zM Da ja (Ra);refine zPU ?_;have Ib:=ta Pa Ra;refine Mc ?_;refine ud Da rfl rfl rfl ((HE.out _ Ib).mono ?_);rintro e w5 ⟨gv,rfl,Jv,kv,Bb⟩;refine ⟨_,rfl,Bb,?_⟩;replace ja:=zM Da ja (Bb);refine zPU ?_;have Lc:=ta Ib Bb;have hgv2:wr.1.size <= gv:=jb Ib.size Jv;replace kC:=pa kC Lc;have Qm:Hid (∀ k,k<L.n -> Blk w5 (gC+1+k) 22 (Ya M fun q=>if q<j \/ (q=j /\ k<0) then Il L.p L.n L.n.log2 (ps.getD q []) gen k else 0)):=fun k h=>by
        have:=(HK.out k h).below Lc (HK.out k h).lt;rw [iq (g:=fun q=>if q<j \/ (q=j /\ k<0) then Il L.p L.n L.n.log2 (ps.getD q []) gen k else 0) (fun q _=>zS)] at this
        exact this
       have hbn3:=Xi.trans (Lc.mono zO);have hsz2:=jb Db Lc.size;have hgv3:gC+1+L.n <= gv:=by omega
       clear Pa Ra Ib Bb Lc Ga ja HK Xi Db cl ll cf lf kl' LF HE Yt Jv;refine Mc ?_;refine Vc ?_;obtain ⟨V,hV⟩:∃ V:Nat -> Nat -> Nat,V=fun q k=>Il L.p L.n L.n.log2 (ps.getD q []) gen k:=⟨_,rfl⟩
       have HV:=zH hV;rw [show Il L.p L.n L.n.log2 (ps.getD j []) gen=V j by rw [hV]] at kv
       replace Qm:Hid (∀ k,k<L.n -> Blk w5 (gC+1+k) 22 (Ya M fun q=>if q<j \/ (q=j /\ k<0) then V q k else 0)):=by rw [hV];exact Qm
       clear hV;go_wp2_with fail
       go_loopw [96] (fun y wr=>∃ i:Nat,i <= L.n /\ y=vd vq i /\ Blk wr gC 28 (Ki L.n fun k=>qo M (gC+1+k)) /\ Hid (∀ k,k<L.n -> Blk wr (gC+1+k) 22 (Ya M fun q=>if q<j \/ (q=j /\ k<i) then V q k else 0)) /\ gC+1+L.n <= wr.1.size /\ vz gC wn wr /\ Blk wr gv 22 (Ya L.n (V j))) (fun y _=>L.n-(intOf y).toNat)
       case atStart=>exact ⟨0,Qb _,rfl,kC,Qm,hsz2,hbn3,kv⟩
       case round =>
        clear kC Qm hsz2 hbn3 kv;obtain ⟨i,hi,rfl,kC,HK,Db,Xi,kv⟩:=hrel;by_cases Ys:i<L.n
        ·have p1:(0:Int)<=i:=by omega
         have p2:(i:Int)<L.n:=by omega
         obtain ⟨x,hx⟩:=zEX (V j i);have cv:=kv.cell i;rw [Ei _ Ys,<- hx] at cv;have lv:=kv.lt;have cC:=kC.cell i;rw [zV _ Ys] at cC;have lC:=kC.lt;obtain ⟨gi,Iv⟩:=zEX (gC+1+i);have kI:Blk wr gi 22 (Ya M fun q=>if q<j \/ (q=j /\ i<i) then V q i else 0):=by rw [Iv];exact HK.out i Ys
         have cI:=kI.cell j;rw [Ei _ ya] at cI;generalize (if j<j \/ (j=j /\ i<i) then V j i else 0)=old at cI
         have lI:=kI.lt;have fI:=kI.frozen;rw [<- Iv] at cC;have ngC:gi≠gC:=by omega
         have ngv:gi≠gv:=by omega
         dsimp only [qo] at cC
         have HGI:=zH Iv;have Js:=zH hx;clear Iv hx;go_wp2_with fail
         have hg:=Hh (w:=wr) gi j (vd vo x);have hK2:Hid (∀ k,k<L.n -> Blk (wr.setCell ⟨gi,j,vB⟩ (vd vo x)) (gC+1+k) 22 (Ya M fun q=>if q<j \/ (q=j /\ k<i+1) then V q k else 0)):=fun k h=>by
          by_cases e:k=i
          ·subst e
           have h2:=kI.set_ j (vd vo x);rw [Tt] at h2;rw [<- HGI.out];rw [iq (g:=fun q=>if q<j \/ (q=j /\ k<k+1) then V q k else 0) (fun q _=>by
            simp only [sg];by_cases e:q=j
            ·subst e;rw [Lb rfl,Lb zO,Js.out]
            ·rw [Gb e]
             by_cases e2:q<j
             ·rw [Lb (.inl e2),Lb (.inl e2)]
             ·rw [Gb zO,Gb zO])] at h2
           exact h2
          ·have h2:=(HK.out k h).grown hg (fun e2=>by have:=Nb e2;have:=HGI.out;omega)
           rw [iq (g:=fun q=>if q<j \/ (q=j /\ k<i+1) then V q k else 0) (fun q _=>by
            by_cases e2:q<j \/ (q=j /\ k<i)
            ·rw [Lb e2,Lb zO]
            ·rw [Gb e2,Gb zO])] at h2
           exact h2
         replace kC:=kC.grown hg (fun e=>ngC (Nb e).symm)
         replace kv:=kv.grown hg (fun e=>ngv (Nb e).symm)
         replace Db:=jb Db hg.size;replace Xi:=Xi.trans (om hg (by have:=Xi.size;have:=HGC.out;omega) (zQ HGI.out))
         clear hg HK kI cI cC cv lI fI lC lv Js
         go_roundw
         case rel=>exact ⟨i+1,zO,by go_num,kC,hK2,Db,Xi,kv⟩
         case measure=>simp [intOf];omega
        ·obtain rfl:i=L.n:=by omega
         have xG:Hid (∀ k,k<L.n -> Blk wr (gC+1+k) 22 (Ya M fun q=>if q<j+1 then Il L.p L.n L.n.log2 (ps.getD q []) gen k else 0)):=fun k h=>by
          have h2:=HK.out k h;rw [iq (g:=fun q=>if q<j+1 then Il L.p L.n L.n.log2 (ps.getD q []) gen k else 0) (fun q _=>by
           rw [HV.out];by_cases e2:q<j+1
           ·rw [Lb e2,Lb zO]
           ·rw [Gb e2,Gb zO])] at h2
          exact h2
         clear HK kv;go_wp2
         go_roundw
         case rel=>exact ⟨j+1,zO,by go_num,kC,xG,Db,Xi⟩
         case measure=>simp [intOf];omega
      ·obtain rfl:j=M:=by omega
       go_wp2;go_ret
       have rF:w.1.size <= gC:=by have:=HGC.out;have:=da.size;omega
       refine ⟨_,rfl,⟨fun q e=>by have e':gC=q:=Nb e;omega,fun u hu=>?_⟩,da.trans (Xi.mono zO)⟩
       rw [show (fun i=>(List.range j).map (QM L ps i))=fun i=>(List.range j).map fun q=>Il L.p L.n L.n.log2 (ps.getD q []) gen i from funext fun i=>HCV.out i]
       have kCu:Blk u gC 28 _:=(hu gC rF kC.lt).trans kC;refine Z3 (N:=gC+1) (gb:=vB) (cs:=Ki L.n fun k=>qo j (gC+1+k)) (fun k hk=>⟨_,zV _ hk,?_⟩) kCu (by simp [maxLen];omega)
       have h2:=HK.out k hk;rw [iq (g:=fun q=>Il L.p L.n L.n.log2 (ps.getD q []) gen k) (fun q hq=>Lb hq)] at h2
       have h3:Blk u (gC+1+k) 22 _:=(hu (gC+1+k) zO h2.lt).trans h2;exact PN h3 (fun q _=>HFF.out k q) lM zO (fun e=>by cases e)
def zs (L:Tb) (m r:List (List Nat)) (k:Nat):List Nat:=Sx L (m.getD k []) (r.getD k [])
def XL (L:Tb) (m r:List (List Nat)) (co li qu:List Nat):List (List Nat):=(List.range m.length).map (zs L m r)++[co,Qh L li,Ck L qu]
theorem zGk (L:Tb) (m r:List (List Nat)) (co li qu:List Nat):(XL L m r co li qu).length=m.length+3:=by simp [XL]
def kH (L:Tb) (ps:List (List Nat)) (j i:Nat):Nat:=RC L.p (ps.getD i []) (Zp L.p (pc L.p).1 L.n j)
def RM (L:Tb) (ps:List (List Nat)):List (List Nat):=(List.range L.n).map fun j=>(List.range ps.length).map (kH L ps j)
theorem xT (f:Nat -> List Nat) (k:Nat):(List.range k).map f++[f k]=(List.range (k+1)).map f:=by simp [List.range_succ]
theorem zDM {M N:Nat} {w:vu} {v:vw} {cs:List vw} {l:List (List Nat)} (h:gh N w v cs l) (hN:M <= N):gh M w v cs l :=
 ⟨h.1,fun i h1 h2 u hu=>h.2 i h1 h2 u fun b b1 b2 b3=>hu b zO b2 b3⟩
theorem zGF (L:Tb) (D0 D1 D2 D3 D4 AM:Option vx) (n0 n1 n2 n3 n4 nM k0 k1 k2 k3 k4 cM:Nat) (m r:List (List Nat)) (co li qu:List Nat) (w:vu) (hL:Ad L)
  (hm:Kd w [ve AM nM cM] m) (hr:Kd w [ve D0 n0 k0] r) (hc:RWd w [ve D1 n1 k1] co) (hl:RWd w [ve D2 n2 k2] li) (hq:RWd w [ve D3 n3 k3] qu)
  (hlen:m.length=r.length) (mf:∀ x∈m,x.length=L.block) (Pe:∀ x∈r,x.length <= 2000) (hT:m.length <= 400000) (h2:li.length <= 2000) (h3:qu.length <= 2000) :
  vA prog 74 #[vf (Ub L),ve AM nM cM,vf #[ve D0 n0 k0,ve D1 n1 k1,ve D2 n2 k2,ve D3 n3 k3,ve D4 n4 k4]] w fun e w'=>∃ n v cs,e=vn v /\ w'.ownsRow w.1.size 28 1 v n cs /\ gh w.1.size w' v cs (RM L (XL L m r co li qu)) /\ vz w.1.size w w':=by
 have Og:=Cc hL.p;have Ce:=hL.n2;obtain ⟨az,-,-,mK⟩:=Ig hm;obtain ⟨Mv,-,-,Le⟩:=Ig hr;subst az;subst Mv;have sl:=fun A n c=>(⟨A,n,c,rfl⟩:slc (ve A n c))
 have e1:=(Pb hc).1;have e2:=(Pb hl).1;have e3:=(Pb hq).1;subst e1 e2 e3;have HEv:=zH (fun A n c x l w hl=>zGJ L.p A n c x l w hL.p hl)
 have pE:=zH (fun A B n c m d msg Xe w hl hk hn hm=>zAd L A B n c m d msg Xe w hL hl hk hn hm)
 have fy:=zH (fun w=>P9 L (ve D0 r.length k0) (ve D1 co.length k1) (ve D2 li.length k2) (ve D3 qu.length k3) (ve D4 n4 k4) w (sl _ _ _) (sl _ _ _) (sl _ _ _) (sl _ _ _) (sl _ _ _))
 have Gs:=zH (fun w' (hb:vz w.1.size w w')=>X9 L (ve D0 r.length k0) (ve D1 co.length k1) (ve D3 qu.length k3) (ve D4 n4 k4) D2 li.length k2 li w' hL (sl _ _ _) (sl _ _ _) (sl _ _ _) (sl _ _ _) (Wa hb hl) zO)
 have EG:=zH (fun w' (hb:vz w.1.size w w')=>zG7 L (ve D0 r.length k0) (ve D1 co.length k1) (ve D2 li.length k2) (ve D4 n4 k4) D3 qu.length k3 qu w' hL (sl _ _ _) (sl _ _ _) (sl _ _ _) (sl _ _ _) (Wa hb hq) zO)
 have HPt:=zH (fun w=>zG2 L w hL)
 have tc:=zH (show ∀ x∈Qh L li,x<18446744073709551616 from fun x hx=>by
  rcases Kk.1 hx with h | h
  ·rw [h];exact Je (rN zO _ _) Og.2
  ·exact zAD hl x h)
 have HQT:=zH (show ∀ x∈Ck L qu,x<18446744073709551616 from dT zO fun x hx=>Je (N7 zO hx) Og.2)
 have mC:=zH (show ∀ a b,∀ x∈Sx L a b,x<18446744073709551616 from fun a b=>dT zO fun x hx=>Je (TT zO hx) Og.2)
 have HCE:=zH (show ∀ ps j i,kH L ps j i<18446744073709551616 from fun ps j i=>Je (Y0 zO _ _) Og.2)
 have Kg:=zH hlen;have Np:=zH mf;have Vf:=zH Pe;obtain ⟨ps,Rk⟩:=zEX (XL L m r co li qu);have im:=zH (show (List.range m.length).map (zs L m r)++[co,Qh L li,Ck L qu]=ps from Rk.symm)
 have lh:=zH (show ps.length=m.length+3 by rw [Rk,zGk])
 rw [<- Rk];have GG:=zH (xT (zs L m r));have HRG:=zH (show ∀ i (h1:i<m.length) (h2:i<r.length),Sx L m[i] r[i]=zs L m r i from fun i h1 h2=>by
  unfold zs;rw [Hc,Hc,Ec h1,Ec h2]
  rfl)
 obtain ⟨rf,jL⟩:=zEX (zs L m r);rw [<- jL] at im GG HRG;have Fa:=hL.b2;clear hL hlen mf Pe Og Rk jL hm hr;unfold Ub at *;obtain ⟨kl,kc,da,Db⟩:=Xf w 35 41 #[vd vo L.p,vd vq L.block,vd vq L.queries,vd vq L.k,vd vq L.n,vd vq L.secret,vd vq L.rows,vd vq L.a,vd vq L.b,vd vq L.b,vd vq L.b] #[ve D0 r.length k0,ve D1 co.length k1,ve D2 li.length k2,ve D3 qu.length k3,ve D4 n4 k4];go_enter func74,ntmps74
 go_upto_region 1 with fail
 generalize (w.alloc _).alloc _=w1 at kl kc da Db |-;obtain ⟨N,hN⟩:=zEX (w1.1.size);have x1:w.1.size<N:=by omega
 have x2:w.1.size+1<N:=by omega
 have x3:w.1.size≠N:=by omega
 have x4:w.1.size+1≠N:=by omega
 have oa:=Zr w1 28 (base:=N) zO;have ma:=zA w1 (.cells #[] 28);have Jc:N <= (w1.alloc (.cells #[] 28)).1.size:=by have:=ma.size;omega
 replace kl:=pa kl ma;replace kc:=pa kc ma;replace da:=ta da ma;clear ma Db;go_upto_region 2 with fail
 have hvx:∃ v0,v0=ve (vD ⟨w1.1.size,0,vB⟩) 0 0:=⟨_,rfl⟩;clear hN;generalize w1.alloc _=w2 at kl kc da oa Jc |-;go_wp2_with fail
 go_loopw [7,8] (fun u y wr=>∃ (i:Nat) (v:vw) (cs:List vw),v=u /\ i <= m.length /\ y=vd vq i /\ Blk wr w.1.size 35 #[vd vo L.p,vd vq L.block,vd vq L.queries,vd vq L.k,vd vq L.n,vd vq L.secret,vd vq L.rows,vd vq L.a,vd vq L.b,vd vq L.b,vd vq L.b] /\ Blk wr (w.1.size+1) 41 #[ve D0 r.length k0,ve D1 co.length k1,ve D2 li.length k2,ve D3 qu.length k3,ve D4 n4 k4] /\ wr.ownsRow N 28 1 v i cs /\ gh 0 wr v cs ((List.range i).map rf) /\ vz w.1.size w wr /\ N <= wr.1.size) (fun _ y _=>m.length-(intOf y).toNat)
 case atStart=>exact ⟨0,_,[],rfl,Qb _,rfl,kl,kc,oa,tH _ _ _,da,Jc⟩
 case round =>
  clear kl kc oa da Jc hvx;obtain ⟨i,v,cs,rfl,hi,rfl,kl,kc,oa,Ta,da,Jc⟩:=hrel;by_cases ya:i<m.length
  ·have q1:(0:Int)<=i:=by omega
   have q2:(i:Int)<m.length:=by omega
   have zx:i<r.length:=by have:=Kg.out;omega
   have q3:(i:Int)<r.length:=by omega
   obtain ⟨bm,qm,Am,lm,cm,rfl,mP,JH,nI⟩:=Dl mK ya;have ox:=(da.cell (p:=⟨bm,qm+i,vB⟩) mP).trans JH;have rp:=Wa da nI;obtain ⟨br,qr,Ar,lr,cr,rfl,nP,KH,oI⟩:=Dl Le zx;have Gv:=(da.cell (p:=⟨br,qr+i,vB⟩) nP).trans KH;have Gm:=Wa da oI;have x5:bm<N:=by omega
   have x6:br<N:=by omega
   have x7:bm≠N:=by omega
   have x8:br≠N:=by omega
   have z1:=(Pb rp).1;have z2:=(Pb Gm).1;have z3:lm=L.block:=by have:=Np.out _ (Qe ya);omega
   have z4:lr <= 2000:=by have:=Vf.out _ (Qe zx);omega
   have HC:=zH (fun w' (hb:vz wr.1.size wr w')=>pE.out Am Ar lm cm lr cr m[i] r[i] w' (Wa hb rp) (Wa hb Gm) z3 zO)
   have HRI:=zH (HRG.out i ya zx);have aJ:=zH (GG.out i);have uJ:=zH (mC.out m[i] r[i]);rw [HRI.out] at HC uJ;have HRIx:=zH (rfl:rf i=rf i);clear z1 z2 z3 z4 nI oI JH KH rp Gm zx HRIx HRI;have cl:=kl.cell;have ll:=kl.lt;have cc:=kc.cell;have lc:=kc.lt;have lbm:bm<wr.1.size:=by omega
   have lbr:br<wr.1.size:=by omega
   obtain ⟨fi,Wn⟩:=zEX (rf i);rw [<- Wn] at HC uJ aJ;clear Wn;go_upto_region 5 with fail
   refine Pd (Ik N N) [11,12,13] [0,1,2,3,4,5,6,7,8,9,10,11,12,13,14] zK zK ?_;refine oe (yb N N) ?_;intro Wc Ga ja;have Pa:=Uf Ga;have Gc:N <= Wc.1.size:=by have:=Pa.size;omega
   replace kl:=pa kl Pa;replace kc:=pa kc Pa;replace oa:=Za oa Pa zR;replace Ta:=Ef Ta Pa;replace da:=ta da Pa;refine Lu ?_;refine ud (yb N N) rfl rfl rfl ((HC.out _ Pa).mono ?_);rintro e w7 ⟨va,rfl,ou,Zb⟩;refine ⟨_,rfl,Td Zb Gc,?_⟩;replace ja:=zM (yb N N) ja (Td Zb Gc);refine zPU ?_;obtain ⟨Av,cv,rfl,-⟩:=Yb ou;have xq:∀ q,v.ownBlock=vD q -> q<Wc.1.size:=fun q e=>(oa.lt q e).2
   have ed:N <= w7.1.size:=by have:=Zb.size;omega
   have hx:=Dz (N:=0) (gb:=v.ownBlock) ou uJ.out (Qb _) xq;replace kl:=pa kl Zb;replace kc:=pa kc Zb;replace oa:=Za oa Zb zR;replace Ta:=Ef Ta Zb;replace da:=ta da Zb;clear ou xq Zb ja HC Pa Ga Gc cl ll cc lc;refine Lu ?_;refine ke (yb N N) rfl rfl rfl ?_;go_simp;have ma:=zA w7 (.cells #[ve Av fi.length cv] 28);have Na:=gg w7 (ve Av fi.length cv) 28;refine ⟨Td ma ed,?_⟩;replace kl:=pa kl ma;replace kc:=pa kc ma;replace oa:=Za oa ma zR;replace Ta:=Ef Ta ma;replace da:=ta da ma;replace hx:=Lm hx ma.size (fun b _ h2 _=>ma.block b h2)
   have Nl:=jb ed ma.size
   refine zPU ?_
   generalize w7.alloc _=w8 at kl kc oa Ta hx da Na Nl |-;generalize w7.1.size=g7 at Na |-;clear ma ed;have ja:=(yb N N).refl w8;refine Lu ?_;refine ke (yb N N) rfl rfl rfl ?_;refine Cs _ _ rfl So rfl oa rfl Na (by intro u hu;simp at hu;subst hu;rfl) zO Nl ?_
   intro v' wn Ua Ma Cb;have uc:∀ q,v.ownBlock=vD q -> N <= q:=fun q e=>(oa.lt q e).1
   refine ⟨Sn Ma Nl uc,?_⟩;have Ag:=YC Ta hx Ma Cb;rw [aJ.out] at Ag;replace kl:=kl.grown Ma (fun e=>by first | (have:=uc _ e;omega) | (have:=uc _ e.symm;omega))
   replace kc:=kc.grown Ma (fun e=>by first | (have:=uc _ e;omega) | (have:=uc _ e.symm;omega))
   replace da:=da.trans ((ie oa Ma Nl).mono zO);have Ud:N <= wn.1.size:=by have:=Ma.size;omega
   clear oa Ta hx Ma Cb uc Nl Na ja;have ja:=(yb N N).refl wn
   refine zPU ?_
   refine Lu ?_;refine Vc ?_;go_wp2
   go_roundw
   case rel=>exact ⟨i+1,v',_,rfl,zO,by go_num,kl,kc,Ua,Ag,da,Ud⟩
   case measure=>simp [intOf];omega
  ·obtain rfl:i=m.length:=by omega
   have q2:¬((m.length:Int)<m.length):=by omega
   have cl:=kl.cell;have ll:=kl.lt;have cc:=kc.cell;have lc:=kc.lt;go_upto_region 6 with fail
   refine Pd (Ik N N) [3,6,9,10,11] [0,1,2,4,5,7,8,3,6,9,10,11,12] zK zK ?_;refine oe (yb N N) ?_;intro Wc Ga ja;have Pa:=Uf Ga;have Gc:N <= Wc.1.size:=by have:=Pa.size;omega
   replace kl:=pa kl Pa;replace kc:=pa kc Pa;replace oa:=Za oa Pa zR;replace Ta:=Ef Ta Pa;replace da:=ta da Pa;refine Lu ?_;refine ud (yb N N) rfl rfl rfl ((fy.out _).mono ?_);rintro e w5 ⟨rfl,Bb⟩;refine ⟨_,rfl,Td Bb Gc,?_⟩;replace ja:=zM (yb N N) ja (Td Bb Gc);refine zPU ?_;have pj:N <= w5.1.size:=by have:=Bb.size;omega
   replace kl:=pa kl Bb;replace kc:=pa kc Bb;replace oa:=Za oa Bb zR;replace Ta:=Ef Ta Bb;replace da:=ta da Bb;clear Bb;refine Lu ?_;refine ud (yb N N) rfl rfl rfl ((Gs.out _ da).mono ?_);rintro e w6 ⟨v6,rfl,o6,Lc⟩;refine ⟨_,rfl,Td Lc pj,?_⟩;replace ja:=zM (yb N N) ja (Td Lc pj);refine zPU ?_;have Ml:N <= w6.1.size:=by have:=Lc.size;omega
   obtain ⟨A6,c6,rfl,-⟩:=Yb o6;have yf:=Dz (N:=0) (gb:=v.ownBlock) o6 tc.out (Qb _) (fun q e=>(oa.lt q e).2)
   replace kl:=pa kl Lc;replace kc:=pa kc Lc;replace oa:=Za oa Lc zR;replace Ta:=Ef Ta Lc;replace da:=ta da Lc;clear Lc o6;refine Lu ?_;refine ud (yb N N) rfl rfl rfl ((EG.out _ da).mono ?_);rintro e w7 ⟨v7,rfl,o7,Zb⟩;refine ⟨_,rfl,Td Zb Ml,?_⟩;replace ja:=zM (yb N N) ja (Td Zb Ml);refine zPU ?_;have ed:N <= w7.1.size:=by have:=Zb.size;omega
   obtain ⟨A7,c7,rfl,-⟩:=Yb o7;have Hm:=Dz (N:=0) (gb:=v.ownBlock) o7 HQT.out (Qb _) (fun q e=>(oa.lt q e).2)
   replace yf:=Lm yf Zb.size (fun b _ h2 _=>Zb.block b h2)
   replace kl:=pa kl Zb;replace oa:=Za oa Zb zR;replace Ta:=Ef Ta Zb;replace da:=ta da Zb;clear Zb o7 ja Pa Ga Gc pj Ml cl ll cc lc kc;have ld:=zHD (gb:=v.ownBlock) hc da (fun q e=>by have:=(oa.lt q e).1;omega)
   refine Lu ?_;refine ke (yb N N) rfl rfl rfl ?_;go_simp;have ma:=zA w7 (.cells #[ve D1 co.length k1,ve A6 (li.length+1) c6,ve A7 (Ck L qu).length c7] 28);have Na:=zAl w7 (ve D1 co.length k1) (ve A6 (li.length+1) c6) (ve A7 (Ck L qu).length c7) 28;refine ⟨Td ma ed,?_⟩;replace kl:=pa kl ma;replace oa:=Za oa ma zR;replace Ta:=Ef Ta ma;replace da:=ta da ma;replace ld:=Lm ld ma.size (fun b _ h2 _=>ma.block b h2)
   replace yf:=Lm yf ma.size (fun b _ h2 _=>ma.block b h2)
   replace Hm:=Lm Hm ma.size (fun b _ h2 _=>ma.block b h2)
   have Nl:=jb ed ma.size
   refine zPU ?_
   generalize w7.alloc _=w8 at kl oa Ta ld yf Hm da Na Nl |-;generalize w7.1.size=g7 at Na |-;clear ma ed;have ja:=(yb N N).refl w8;refine Lu ?_;refine ke (yb N N) rfl rfl rfl ?_;refine Cs _ _ rfl So rfl oa rfl Na (by intro u hu;simp at hu;rcases hu with rfl | rfl | rfl <;> rfl) zO Nl ?_
   intro v' wn Ua Ma Cb;have uc:∀ q,v.ownBlock=vD q -> N <= q:=fun q e=>(oa.lt q e).1
   refine ⟨Sn Ma Nl uc,?_⟩;have Ag:=G4 Ta ld yf Hm Ma Cb;rw [im.out] at Ag;replace kl:=kl.grown Ma (fun e=>by first | (have:=uc _ e;omega) | (have:=uc _ e.symm;omega))
   replace da:=da.trans ((ie oa Ma Nl).mono zO);have MP:=sH Ag Ua;clear oa Ta ld yf Hm Ma Cb uc Nl Na ja Ag;have ja:=(yb N N).refl wn
   refine zPU ?_
   refine Lu ?_;refine Vc ?_;clear ja;rw [<- lh.out] at Ua;obtain ⟨Ap,cp,rfl,-⟩:=Yb Ua;clear Ua im GG HRG mC tc HQT fy Gs EG pE Np Vf mK Le hc hl hq;obtain ⟨-,-,-,hPd⟩:=Ig MP;have HM3:=lh.out;obtain ⟨M,hM⟩:=zEX (ps.length);have hM4:M <= 400003:=by omega
   have WA:=zH hM;rw [<- hM];clear HM3 hM;have cl:=kl.cell;have ll:=kl.lt;go_wp2_with fail
   refine (HPt.out _).mono ?_;rintro e w9 ⟨u1,u2,rfl,hpa,hpb,Ca⟩;replace hPd:=hPd.below rD Ca;replace kl:=pa kl Ca;replace da:=ta da Ca;clear Ca cl ll MP;obtain ⟨Aa,ca,rfl⟩:=eh hpa;clear hpa;have mE:=zH (show ∀ j,j<L.n -> ((List.range L.n).map (Zp L.p (pc L.p).1 L.n)).getD j 0=Zp L.p (pc L.p).1 L.n j from fun j hj=>by rw [wt,Lb hj])
   have fA:=zH (show ((List.range L.n).map (Zp L.p (pc L.p).1 L.n)).length=L.n by simp)
   have HCO:=zH (show ∀ j i,kH L ps j i=RC L.p (ps.getD i []) (Zp L.p (pc L.p).1 L.n j) from fun _ _=>rfl)
   have Pq:=zH (show RM L ps=(List.range L.n).map fun j=>(List.range M).map (kH L ps j) by rw [WA.out];rfl)
   generalize (List.range L.n).map (Zp L.p (pc L.p).1 L.n)=P at *;obtain ⟨Ab,cb,rfl⟩:=eh hpb;have hrp:=(Pb hpb).2.2.2.2;obtain ⟨T,Qy⟩:=zEX (P.length);have HTT:=zH Qy;have gT:(T:Int) <= 1024:=by have:=fA.out;omega
   rw [<- Qy];clear Qy hpb;go_upto_region 9 with fail
   have oa:=Zr w9 28 (base:=w9.1.size) zR;have ma:=zA w9 (.cells #[] 28);have kl9:=kl.alloc (.cells #[] 28);have hkl9:=kl.lt;go_wp2_with fail
   go_loopw [11,12] (fun u y wr=>∃ (j:Nat) (v:vw) (cs:List vw),v=u /\ j <= T /\ y=vd vq j /\ Blk wr w.1.size 35 #[vd vo L.p,vd vq L.block,vd vq L.queries,vd vq L.k,vd vq L.n,vd vq L.secret,vd vq L.rows,vd vq L.a,vd vq L.b,vd vq L.b,vd vq L.b] /\ wr.ownsRow w9.1.size 28 1 v j cs /\ gh w9.1.size wr v cs ((List.range j).map fun j=>(List.range M).map (kH L ps j)) /\ vz w9.1.size w9 wr) (fun _ y _=>T-(intOf y).toNat)
   case atStart=>exact ⟨0,_,[],rfl,Qb _,rfl,kl9,oa,tH _ _ _,ma⟩
   case round =>
    clear kl kl9 oa ma;obtain ⟨j,v,cs,rfl,hj,rfl,kl,oa,Ta,df⟩:=hrel;by_cases hltj:j<T
    ·have q3:(j:Int)<T:=by omega
     have q4:(0:Int)<=j:=by omega
     obtain ⟨wo,xB⟩:=zEX (wr);subst xB;have hjP:j<P.length:=by have:=HTT.out;omega
     have IG:=zH (xT (fun j=>(List.range M).map (kH L ps j)) j)
     obtain ⟨f,hf⟩:=zEX (kH L ps j);have HF:=zH (show ∀ i,f i=RC L.p (ps.getD i []) (P.getD j 0) from fun i=>by rw [hf,HCO.out,mE.out j (zQ fA.out)])
     have HFT:=zH (show ∀ x∈(List.range M).map f,x<18446744073709551616 from fun x hx=>by
      obtain ⟨i,-,rfl⟩:=ee.1 hx;rw [hf];exact HCE.out _ _ _)
     have bJ:=zH (fun i=>OB f i)
     rw [<- hf] at IG;clear hf;go_upto_region 13 with fail
     have dt:=Zr wo 22 (base:=wo.1.size) zR;have ma:=zA wo (.cells #[] 22);go_wp2_with fail
     go_loopw [13,14] (fun u y wr=>∃ (i:Nat) (x:vw),x=u /\ i <= M /\ y=vd vq i /\ wr.ownsRow wo.1.size 22 1 x i (Qa ((List.range i).map f)) /\ vz wo.1.size wo wr) (fun _ y _=>M-(intOf y).toNat)
     case atStart=>exact ⟨0,_,rfl,Qb _,rfl,dt,ma⟩
     case round =>
      clear dt ma;obtain ⟨i,x,rfl,Ff,rfl,dt,ng⟩:=hrel;have aS:=ta df ng;by_cases Ys:i<M
      ·have q5:(i:Int)<M:=by omega
       have q6:(0:Int)<=i:=by omega
       have hip:i<ps.length:=by rw [<- WA.out];exact Ys
       obtain ⟨bp,qp,A1,l1,c1,rfl,hbp9,hcp9,hrp9⟩:=Dl hPd hip;obtain ⟨bq,qq,rfl,hbq9,hcq9⟩:=Hf hrp hjP;have hcp:=(aS.cell (p:=⟨bp,qp+i,vB⟩) hbp9).trans hcp9;have rq:=(aS.cell (p:=⟨bq,qq+j,vB⟩) hbq9).trans hcq9;have hrp1:=Wa aS hrp9;have hs9:=df.size;have hso:=ng.size;have hbp:bp<wo.1.size:=by omega
       have hbq:bq<wo.1.size:=by omega
       have VV:bp<wr.1.size:=by omega
       have hbq2:bq<wr.1.size:=by omega
       have eu:w.1.size<wo.1.size:=kl.lt;clear hbp9 hcp9 hrp9 hbq9 hcq9;have PK:ps.getD i []=ps[i]:=by rw [Hc,Ec hip];rfl
       have zn:=zH (HF.out i);rw [PK] at zn;obtain ⟨pi,hpi⟩:=zEX (ps[i]);rw [<- hpi] at hrp1 zn;obtain ⟨y,hy⟩:=zEX (P.getD j 0);rw [<- hy] at rq zn;obtain ⟨z,hz⟩:=zEX (f i);rw [<- hz] at zn;have HFNi:=zH (bJ.out i);rw [<- hz] at HFNi;have gy:=zH (fun w' (sk:vz wr.1.size wr w')=>by have:=HEv.out A1 l1 c1 y pi w' (Wa sk hrp1);rw [<- zn.out] at this;exact this)
       have wu:=pa kl ng;have cl:=wu.cell;have ll:=wu.lt;clear PK hpi hy hz zn hip wu;go_upto_region 16 with fail
       refine Pd (WB wo.1.size) [11,12,13] [0,1,2,3,4,5,6,7,8,9,10,11,12,13,14] zK zK ?_;refine oe (Qf wo.1.size) ?_;intro Wc Ga ja;have Pa:=Uf Ga;have Gc:wo.1.size <= Wc.1.size:=by have:=Pa.size;omega
       replace dt:=Za dt Pa zR;replace ng:=ta ng Pa;refine nw ?_;refine oM (Qf wo.1.size) rfl rfl rfl (fun _=>by go_simp <;> rfl) ((gy.out _ Pa).mono ?_)
       rintro e sn ⟨rfl,Ca⟩;refine ⟨_,rfl,Xw Ca Gc,?_⟩;replace ja:=(Qf wo.1.size).trans _ _ _ ja (Xw Ca Gc);refine zPU ?_;have NV:wo.1.size <= sn.1.size:=by have:=Ca.size;omega
       replace dt:=Za dt Ca zR;replace ng:=ta ng Ca;clear Ca Pa Ga Gc cl ll hcp rq VV hbq2 ja;have ja:=(Qf wo.1.size).refl sn;refine nw ?_;refine ke (Qf wo.1.size) rfl rfl rfl ?_;go_simp;have ma:=zA sn (.cells #[vd vo z] 22);have Na:=gg sn (vd vo z) 22;refine ⟨Xw ma NV,?_⟩;replace dt:=Za dt ma zR;replace ng:=ta ng ma;have OV:=jb NV ma.size
       refine zPU ?_
       generalize sn.alloc _=PI at dt ng Na OV |-;generalize sn.1.size=g10 at Na |-;clear ma NV ja;have ja:=(Qf wo.1.size).refl PI;refine nw ?_;refine ke (Qf wo.1.size) rfl rfl rfl ?_;refine Cs _ _ rfl jg rfl dt rfl Na (De [z]) zO OV ?_;intro x' wn sW Ma Cb;have VA:=ie dt Ma OV;refine ⟨VA,?_⟩;replace ng:=ng.trans VA;replace sW:wn.ownsRow wo.1.size 22 1 x' (i+1) (Qa ((List.range (i+1)).map f)):=Qi (b:=[z]) sW HFNi.out;clear dt Ma Cb VA Na ja;have ja:=(Qf wo.1.size).refl wn
       refine zPU ?_
       refine nw ?_;refine Vc ?_;go_wp2
       go_roundw
       case rel=>exact ⟨i+1,x',rfl,zO,by go_num,sW,ng⟩
       case measure=>simp [intOf];omega
      ·obtain rfl:i=M:=by omega
       have q5:¬((i:Int)<i):=by omega
       obtain ⟨Ax,cx,rfl,-⟩:=Yb dt;have uc:∀ q,v.ownBlock=vD q -> q<wo.1.size:=fun q e=>(oa.lt q e).2
       have hx:=Dz (N:=w9.1.size) (gb:=v.ownBlock) dt HFT.out df.size uc;replace kl:=pa kl ng;replace oa:=Za oa ng zR;replace Ta:=Ef Ta ng;replace df:=ta df ng;clear ng dt uc aS;go_wp2_with (at_builtin;refine Wd rfl _ _ rfl So rfl (oa.alloc _) rfl (gg _ _ _) (by intro u hu;simp at hu;subst hu;rfl) zO (by simp;have:=df.size;omega) ?_)
       intro v' wn Ua Ma Cb;have ma:=zA wr (.cells #[ve Ax i cx] 28);have Qr:∀ q,v.ownBlock=vD q -> w9.1.size <= q:=fun q e=>(oa.lt q e).1
       have yv:=ie (oa.alloc _) Ma (by simp;have:=df.size;omega)
       have hk9:w.1.size<w9.1.size:=hkl9;replace kl:=pa kl ma;replace Ta:=Ef Ta ma;replace hx:=Lm hx ma.size (fun b _ h2 _=>ma.block b h2)
       have Ag:=YC Ta hx Ma (by simpa using Cb)
       rw [IG.out] at Ag;replace kl:=kl.grown Ma (fun e=>by first | (have:=Qr _ e;omega) | (have:=Qr _ e.symm;omega))
       replace df:=(ta df ma).trans yv;clear ma Ma Cb yv Ta hx oa;go_wp2
       go_roundw
       case rel=>exact ⟨j+1,v',_,rfl,zO,by go_num,kl,Ua,Ag,df⟩
       case measure=>simp [intOf];omega
    ·obtain rfl:j=T:=by omega
     have q3:¬((j:Int)<j):=by omega
     have fN:=zDM Ta da.size;rw [show (List.range j).map (fun j=>(List.range M).map (kH L ps j))=RM L ps by rw [Pq.out,show (j:Nat)=L.n by rw [HTT.out,fA.out]]] at fN
     have Ua:=Hg oa da.size;go_wp2;go_ret
     exact ⟨_,_,rfl,_,Ua,fN,da.trans (df.mono da.size)⟩
theorem zDG {p a b:Nat} (h:jc p=true) (fF:a<b) (hb:b-a<p-1):¬Cg p (((pc p).1:Int)^a) (((pc p).1:Int)^b):=fun hc=>by
 have hp:=Cc h;refine p4 h (k:=b-a) zO hb ?_;have hv:Cg p (((pc p).1:Int)*((pc p).1:Int)^(p-2)) 1:=by
  have:=ZJ h;rw [show p-1=(p-2)+1 by omega,Zk,Rp] at this
  exact this
 have h1:Cg p (((pc p).1:Int)^a*(((pc p).1:Int)^(p-2))^a) 1:=by
  rw [<- Int.mul_pow];exact (hv.pow a).trans (Cg.of_eq Int.one_pow)
 have h2:Cg p (((pc p).1:Int)^b*(((pc p).1:Int)^(p-2))^a) (((pc p).1:Int)^(b-a)):=by
  rw [show ((pc p).1:Int)^b=((pc p).1:Int)^(b-a)*((pc p).1:Int)^a by rw [<- Int.pow_add];congr 1;omega,Ks]
  exact (Cg.rfl'.mul h1).trans (Cg.of_eq (Int.mul_one _))
 exact h2.symm.trans ((hc.symm.mul Cg.rfl').trans h1)
theorem zAq {p n a b:Nat} (h:jc p=true) (hn:fl p n) (fF:a<b) (hb:b<n):¬Cg p ((Tg p n:Int)^a) ((Tg p n:Int)^b):=fun hc=>by
 have hp:=Cc h;have hd:=Nat.div_mul_cancel (Nat.dvd_of_mod_eq_zero hn.dvd);obtain ⟨m,hm⟩:=zEX ((p-1) / n);have he:∀ k,Cg p ((Tg p n:Int)^k) (((pc p).1:Int)^(m*k)):=fun k=>by
  rw [Yk,hm];refine Cg.pow ?_ k;unfold Tg;exact (Cg.mod _).trans (Cg.of_eq (Xu _ _))
 rw [<- hm] at hd;have jf:0<m:=by
  rcases Jn m with e | e
  ·rw [e,Nat.zero_mul] at hd;omega
  ·exact e
 refine zDG h (a:=m*a) (b:=m*b) (Nat.mul_lt_mul_of_pos_left fF jf) ?_ ((he a).symm.trans (hc.trans (he b)));have h1:m*(b-a)<m*n:=Nat.mul_lt_mul_of_pos_left zO jf;rw [Nat.mul_sub] at h1;omega
theorem zHs {p n:Nat} (h:jc p=true) (hn:fl p n):∀ i j,i<n -> j<n -> i≠j -> ¬Cg p ((Tg p n:Int)^i) ((Tg p n:Int)^j):=fun i j hi hj db hc=>by
 rcases Nat.lt_or_gt_of_ne db with h1 | h1
 ·exact zAq h hn h1 hj hc
 ·exact zAq h hn h1 hi hc.symm
theorem L7 {p N J:Nat} (h:jc p=true) (hN:fl p N) (hJ:N=2^J) (a b:List Nat) (ha:1 <= a.length) (fF:a.length+b.length <= N+1) (k:Nat) (hk:k<N):Cg p (tD p N J a b k:Int) (OC (Dg p a b) k):=by
 have hp:=Cc h;refine zHI (n:=N) h (a:=fun k=>(tD p N J a b k:Int)) (b:=OC (Dg p a b)) (xs:=fun k=>(Tg p N:Int)^k) (zHs h hN) (fun q hq=>?_) k hk
 unfold tD;refine (zEd (q:=q) _ h hN hJ hq).trans ?_;rw [wt,Lb hq,pV h hN hJ a hq,pV h hN hJ b hq];have hl:=uD p a b;rw [TO _ _ zO];refine (Cg.mod _).trans ((Cg.of_eq (Vh _ _)).trans ?_);refine ((X0 a).mul (X0 b)).trans ?_;refine (zCY a b _).symm.trans ?_;unfold Br;exact Ny (fun _=>Cg.rfl') zCI _
theorem M7 {p N J:Nat} (hp:0<p) (a b:List Nat) (k:Nat):tD p N J a b k<p:=Sc _ hp
theorem zGS (L:Tb) (t1 t2:Nat) (w:vu) (hL:Ad L) (h1:t1=L.k+L.block-1) (h2:t2=2*L.k-1) :
  vA prog 48 #[vf (Ub L)] w fun e w'=>e=vn (vf #[vd vq L.k,vd vq t1,vd vq t2]) /\ vz w.1.size w w':=by
 have Oa:=hL.b1;have Fa:=hL.b2;have qi:=hL.q1;have mo:=hL.q2;have hk:=hL.k;obtain ⟨t3,ht3⟩:=zEX (L.k+L.block);obtain ⟨t4,ht4⟩:=zEX (2*L.k);have e1:(L.k:Int)+L.block=(t3:Int):=by omega
 have e2:=Xd t3;have e3:(t3:Int)-1=(t1:Int):=by omega
 have e4:=Xd t1;have e5:(2:Int)*L.k=(t4:Int):=by omega
 have e6:=Xd t4;have e7:(t4:Int)-1=(t2:Int):=by omega
 have e8:=Xd t2;clear Oa Fa qi mo hk ht3 ht4 h1 h2 hL;unfold Ub;obtain ⟨kl,ka,da,-⟩:=Xf w 35 108 #[vd vo L.p,vd vq L.block,vd vq L.queries,vd vq L.k,vd vq L.n,vd vq L.secret,vd vq L.rows,vd vq L.a,vd vq L.b,vd vq L.b,vd vq L.b] #[vd vq 0,vd vq 0,vd vq 0];go_enter func48,ntmps48
 go_upto_region 1 with fail
 generalize (w.alloc _).alloc _=w1 at kl ka da |-;have ME:=kl.cell;obtain ⟨cc2,f2⟩:=ka.cells';have l1:=kl.lt;have l2:=ka.lt;go_wp2_with fail
 have k3:=Dp ka (vd vq L.k) (vd vq t1) (vd vq t2);have hg:=Ep (w:=w1) (g:=w.1.size+1) (vd vq L.k) (vd vq t1) (vd vq t2);replace da:=Ee da hg;revert k3 da
 generalize ((vE _ _ _).setCell _ _).setCell _ _=wf;intro k3 da;have c4:=k3.cell;exact Uc (v:=vf #[vd vq L.k,vd vq t1,vd vq t2]) (by simp [results,results48,go_sem,c4]) rfl ⟨rfl,da⟩
theorem zEk {P:Program} {f:FuncId} {fn:Func} {s:ChangeSpec} {c:OpenClaim}
  (k1:(c.wf (OpenSpec.ofChange s))=true)
  (k2:(laidOutB P)=true)
  (k3:(mapsRowed P)=true)
  (k4:(fn.params.all (P.readableRec ·))=true)
  (k5:(namedTie P c.named s.vars)=true)
  (k6:((c.stops == []))=true)
  (k7:((P.stops == []))=true)
  (k8:((c.knobs == []))=true)
  (k9:((P.stopKnobs == []))=true)
  (k10:((c.inPlace == P.inPlace f))=true)
  (k11:((c.unfollowed == P.unfollowed f))=true)
  (k12:((c.recurses == P.recurses f))=true)
  (k13:((c.named == P.varsNamed f))=true)
  (k14:((c.maps == (fn.params.toList++s.plain.varTypes P).any (P.mapsRec ·)))=true)
  (zB:((c.ifaces == (fn.params.toList++s.plain.varTypes P).any (P.ifacesRec ·)))=true)
  (k16:((c.mapsOut == P.mapsAmong fn.resultTypes.toList))=true)
  (k17:((c.loops == (fn.params.toList++s.plain.varTypes P).any (P.loopsFrom ·)))=true)
  (k18:((c.wideKeys == (fn.params.toList++s.plain.varTypes P++fn.resultTypes.toList).any (P.wideKeysFrom ·)))=true)
  (k19:(s.vars.all (P.varReadable ·))=true)
  (k20:(fn.resultTypes.all (fun t=>P.readableRec t&&decide (t<P.types.size)))=true)
  (k21:((c.ifacesOut == fn.resultTypes.toList.any (P.ifacesRec ·)))=true)
  (k22:((c.loopsOut == fn.resultTypes.toList.any (P.loopsFrom ·)))=true)
  (k23:((c.plainKeys == P.plainKeys))=true)
  (k24:(c.shortTexts.isNone)=true)
  (k25:(P.stopsHeard)=true)
  (k26:(P.mayEnter)=true)
  (k27:((c.lifted == P.liftsFinal))=true)
  (k28:((P.make == vD c.make))=true)
  (k29:((c.kinds == (if c.domain.isEmpty then [] else fn.params.toList.map fun t=>match P.underlying t with | some (.int k)=>vD k | _=>vB)))=true)
  (k30:((c.pinned == c.pinnedBy))=true)
  (k31:((c.veiled == (fn.params.toList++s.plain.varTypes P++fn.resultTypes.toList).any (P.veiledRec ·)))=true)
  (k32:(c.veiledFits P fn.params.toList (fn.params.toList++s.plain.varTypes P++fn.resultTypes.toList))=true)
  : joinedFacts P f fn s c=true:=by
 unfold joinedFacts;simp only [pe];exact ⟨⟨⟨⟨⟨⟨⟨⟨⟨⟨⟨⟨⟨⟨⟨⟨⟨⟨⟨⟨⟨⟨⟨⟨⟨⟨⟨⟨⟨⟨⟨k1,k2⟩,k3⟩,k4⟩,k5⟩,k6⟩,k7⟩,k8⟩,k9⟩,k10⟩,k11⟩,k12⟩,k13⟩,k14⟩,zB⟩,k16⟩,k17⟩,k18⟩,k19⟩,k20⟩,k21⟩,k22⟩,k23⟩,k24⟩,k25⟩,k26⟩,k27⟩,k28⟩,k29⟩,k30⟩,k31⟩,k32⟩
end Go.Proofs.YteoghgbnielkpaaGreat
