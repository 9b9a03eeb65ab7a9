/- A part of the proof. No condition. -/
import Derived.Test.YteoghgbnielkpaaGreatTC10
import Derived.Test.YteoghgbnielkpaaGreatTC8

set_option maxRecDepth 100000
set_option maxHeartbeats 8000000
set_option linter.unusedVariables false
set_option linter.unusedSimpArgs false
namespace Go.Proofs.YteoghgbnielkpaaGreat
open Go.RowKit
open Tryz
open Go renaming World->vw, Addr->vy, Calls->vB
open Go.Value renaming int->vd, slice->ve, agg->vf
open Go.IntKind renaming u64->vn, i64->vq
open Go.Ending renaming returned->vl
open Go.RowKit renaming Below->vA
open Go.Act renaming put->vG
open Option renaming none->vD, some->vE
def mO (p pu n La:Nat) (rows:List Ua) (k:Nat) (f:Nat -> Nat):Nat -> (Nat -> Nat)
 | 0=>f
 | i+1=>Hw p pu (La^(k*n+i)%p) (mO p pu n La rows k f i) (Gc (rows.getD i ⟨[],[],[]⟩) k) (Gc (rows.getD i ⟨[],[],[]⟩) k).length
def Dz (p pu n La:Nat) (rows:List Ua):Nat -> (Nat -> Nat)
 | 0=>fun _=>0
 | k+1=>mO p pu n La rows k (Dz p pu n La rows k) n
def Uh (L:Ma) (pu La:Nat) (rows:List Ua):List (List Nat) :=
 Up L.block (yf ((List.range L.secret).map (Dz L.p pu rows.length La rows 3)) (bh L.p rows.length La 0) (bh L.p rows.length La 1) (bh L.p rows.length La 2)) (yf L.a L.b L.b L.b)
def My (s pu x:Nat) (t:Int × Nat):Int:=if t.1-1-(pu:Int)=s then (x:Int)*t.2 else 0
theorem zHQ {p:Nat} (hp:1<p) (pu x:Nat) (f:Nat -> Nat) (t:Int × Nat) (s:Nat):Cg p (JA p pu x f t s:Int) ((f s:Int)-My s pu x t):=by
 unfold JA My;by_cases h:0 <= t.1-1-(pu:Int)
 ·rw [Na h]
  by_cases e:t.1-1-(pu:Int)=s
  ·rw [Na e,e,Bk]
   unfold xf;rw [Na rfl];refine (Cg.mod _).trans ((Cg.of_eq (Ml _ _)).trans ?_);refine (Cg.rfl'.add ((WC p _ (by omega)).trans ?_)).trans (Cg.of_eq (Int.sub_eq_add_neg).symm)
   exact Cg.neg ((Cg.mod _).trans (Cg.of_eq (Uf _ _)))
  ·rw [ya e]
   unfold xf;rw [ya (by omega)]
   exact Cg.of_eq (by omega)
 ·rw [ya h,ya (by omega)]
  exact Cg.of_eq (by omega)
theorem vW {p:Nat} {a b t u:Int} (h:Cg p a (b-t)):Cg p (a-u) (b-(t+u)):=by
 obtain ⟨c,hc⟩:=h;exact ⟨c,by omega⟩
theorem V5 {p:Nat} {a t u:Int} (h:Cg p a (-t)):Cg p (a-u) (-(t+u)):=by
 obtain ⟨c,hc⟩:=h;exact ⟨c,by omega⟩
theorem iW {p:Nat} (hp:1<p) (pu x:Nat) (f:Nat -> Nat) (ts:List (Int × Nat)) (s:Nat):∀ n,Cg p (Hw p pu x f ts n s:Int) ((f s:Int)-Pa (fun t=>My s pu x (ts.getD t (0,0))) n)
 | 0=>Cg.of_eq (by rw [Pa];show (f s:Int)=_;omega)
 | n+1=>by
  rw [Pa];refine (zHQ hp pu x _ _ s).trans ?_;exact vW (iW hp pu x f ts s n)
def DA (p pu n La:Nat) (rows:List Ua) (s j i:Nat):Int:=Pa (fun t=>My s pu (La^(j*n+i)%p) ((Gc (rows.getD i ⟨[],[],[]⟩) j).getD t (0,0))) (Gc (rows.getD i ⟨[],[],[]⟩) j).length
theorem D9 {p:Nat} (hp:1<p) (pu n La:Nat) (rows:List Ua) (i:Nat) (f:Nat -> Nat) (s:Nat):∀ j,Cg p (CA p pu n La (rows.getD i ⟨[],[],[]⟩) i f j s:Int) ((f s:Int)-Pa (fun j=>DA p pu n La rows s j i) j)
 | 0=>Cg.of_eq (by rw [Pa];show (f s:Int)=_;omega)
 | j+1=>by
  rw [Pa];refine (iW hp pu _ _ _ s _).trans ?_;exact vW (D9 hp pu n La rows i f s j)
theorem C9 {p:Nat} (hp:1<p) (pu n La:Nat) (rows:List Ua) (s:Nat):∀ i,Cg p (pJ p pu n La rows i s:Int) (-(Pa (fun i=>Pa (fun j=>DA p pu n La rows s j i) 3) i))
 | 0=>Cg.of_eq rfl
 | i+1=>by
  rw [Pa];refine (D9 hp pu n La rows i _ s 3).trans ?_;exact V5 (C9 hp pu n La rows s i)
theorem MY {p:Nat} (hp:1<p) (pu n La:Nat) (rows:List Ua) (k:Nat) (f:Nat -> Nat) (s:Nat):∀ i,Cg p (mO p pu n La rows k f i s:Int) ((f s:Int)-Pa (fun i=>DA p pu n La rows s k i) i)
 | 0=>Cg.of_eq (by rw [Pa];show (f s:Int)=_;omega)
 | i+1=>by
  rw [Pa];refine (iW hp pu _ _ _ s _).trans ?_;exact vW (MY hp pu n La rows k f s i)
theorem AS {p:Nat} (hp:1<p) (pu n La:Nat) (rows:List Ua) (s:Nat):∀ k,Cg p (Dz p pu n La rows k s:Int) (-(Pa (fun k=>Pa (fun i=>DA p pu n La rows s k i) n) k))
 | 0=>Cg.of_eq rfl
 | k+1=>by
  rw [Pa];refine (MY hp pu n La rows k _ s n).trans ?_;exact V5 (AS hp pu n La rows s k)
theorem zHn {p:Nat} (hp:1<p) (pu n La:Nat) (rows:List Ua) (s:Nat):∀ i,pJ p pu n La rows i s<p:=by
 have hT:∀ (x:Nat) (f:Nat -> Nat) ts t,(∀ k,f k<p) -> ∀ k,Hw p pu x f ts t k<p:=fun x f ts t hf=>by
  induction t with
  | zero=>exact hf
  | succ t ih =>
   intro k;show JA p pu x (Hw p pu x f ts t) _ k<_
   unfold JA;split
   ·unfold xf
    split
    ·exact ic _ (by omega)
    ·exact ih k
   ·exact ih k
 have hS:∀ r i (f:Nat -> Nat),(∀ k,f k<p) -> ∀ j k,CA p pu n La r i f j k<p:=fun r i f hf j=>by
  induction j with
  | zero=>exact hf
  | succ j ih=>exact hT _ _ _ _ ih
 have hR:∀ i k,pJ p pu n La rows i k<p:=fun i=>by
  induction i with
  | zero=>intro k;show 0<p;omega
  | succ i ih=>exact hS _ _ _ ih 3
 exact fun i=>hR i s
theorem zCm {p:Nat} (hp:1<p) (pu n La:Nat) (rows:List Ua) (s:Nat):∀ k,Dz p pu n La rows k s<p:=by
 have hT:∀ (x:Nat) (f:Nat -> Nat) ts t,(∀ k,f k<p) -> ∀ k,Hw p pu x f ts t k<p:=fun x f ts t hf=>by
  induction t with
  | zero=>exact hf
  | succ t ih =>
   intro k;show JA p pu x (Hw p pu x f ts t) _ k<_
   unfold JA;split
   ·unfold xf
    split
    ·exact ic _ (by omega)
    ·exact ih k
   ·exact ih k
 have hI:∀ k (f:Nat -> Nat),(∀ s,f s<p) -> ∀ i s,mO p pu n La rows k f i s<p:=fun k f hf i=>by
  induction i with
  | zero=>exact hf
  | succ i ih=>exact hT _ _ _ _ ih
 have hK:∀ k s,Dz p pu n La rows k s<p:=fun k=>by
  induction k with
  | zero=>intro s;show 0<p;omega
  | succ k ih=>exact hI _ _ ih n
 exact fun k=>hK k s
theorem zHm {p:Nat} (hp:1<p) (pu La:Nat) (rows:List Ua) (n s:Nat):pJ p pu n La rows n s=Dz p pu n La rows 3 s:=by
 refine Cg.eq (p:=p) ((C9 hp pu n La rows s n).trans (Cg.trans (Cg.of_eq ?_) (AS hp pu n La rows s 3).symm)) (zHn hp _ _ _ _ _ _) (zCm hp _ _ _ _ _ _);rw [IA (fun i j=>DA p pu n La rows s j i) 3 n]
theorem xY {L:Ma} (hp:1<L.p) (pu La:Nat) (rows:List Ua):ov L pu La rows=Uh L pu La rows:=by
 unfold ov Uh;rw [pz fun s _=>zHm hp pu La rows rows.length s]
theorem NU {p:Nat} {n:Int} {l:List (Int × Nat)} (h:Lh p n l=true):∀ t∈l,0 <= t.1 /\ t.1<n:=fun t ht=>by
 obtain ⟨i,hi,rfl⟩:=Hm ht;unfold Lh at h;have h1:=fe.1 h i (Oi.2 hi);have e:l.getD i (0,0)=l[i]:=by rw [Cb,Xb hi];rfl
 unfold ar at h1;rw [e] at h1;simp only [Xk,Bool.or_eq_false_iff,mu] at h1;omega
theorem SW {p:Nat} {pub vars:Int} {rows:List Ua} (h:Nc p pub vars rows=true):Dx vars rows:=fun r hr k hk t ht=>by
 unfold Nc at h;rw [mc] at h;have h1:=fe.1 h.2 r hr;unfold qn at h1;rw [mc,mc] at h1;unfold Gc at ht;rcases (show k=0 \/ k=1 \/ k=2 by omega) with e | e | e <;> subst e
 ·exact NU h1.1.1 t ht
 ·exact NU h1.1.2 t ht
 ·exact NU h1.2 t ht
theorem ZQ {L:Ma} {p pu:Nat} {vars bl bw qs:Int} {rows:List Ua} (h:Nc p (pu:Int) vars rows=true) (hF:mi L ⟨p,(pu:Int),vars,rows.length,bl,bw,qs⟩):eu L pu vars rows:=by
 simp only [Nc,mc,Xk,mu] at h;have h1:L.rows=rows.length:=by rw [hF.eq];rfl
 have h2:L.secret=(vars-1-(pu:Int)).toNat:=by rw [hF.eq];rfl
 have h3:=hF.vars;simp only at h3;exact ⟨h1,by omega,by omega⟩
def tD (p n La:Nat) (ws:List Nat) (r:Ua) (i s:Nat):Nat -> Nat
 | 0=>s
 | j+1=>(tD p n La ws r i s j+La^(j*n+i)%p*Ec p (Gc r j) ws%p)%p
def sJ (p n La:Nat) (ws:List Nat) (rows:List Ua):Nat -> Nat
 | 0=>0
 | i+1=>tD p n La ws (rows.getD i ⟨[],[],[]⟩) i (sJ p n La ws rows i) 3
def tgI (p n La:Nat) (ws:List Nat) (rows:List Ua) (k s:Nat):Nat -> Nat
 | 0=>s
 | i+1=>(tgI p n La ws rows k s i+La^(k*n+i)%p*Ec p (Gc (rows.getD i ⟨[],[],[]⟩) k) ws%p)%p
def Ir (p n La:Nat) (ws:List Nat) (rows:List Ua):Nat -> Nat
 | 0=>0
 | k+1=>tgI p n La ws rows k (Ir p n La ws rows k) n
def uD (p n La:Nat) (ws:List Nat) (rows:List Ua) (k i:Nat):Int:=((La^(k*n+i)%p:Nat):Int)*((Ec p (Gc (rows.getD i ⟨[],[],[]⟩) k) ws:Nat):Int)
theorem ZR {p:Nat} {a:Nat} {s:Int} (h:Cg p (a:Int) s) (x y:Nat):Cg p (((a+x*y%p)%p:Nat):Int) (s+(x:Int)*y):=by
 refine (Cg.mod _).trans ((Cg.of_eq (Ml _ _)).trans ?_);exact h.add ((Cg.mod _).trans (Cg.of_eq (Uf _ _)))
theorem zAp {p:Nat} (n La:Nat) (ws:List Nat) (rows:List Ua) (i s:Nat):∀ j,Cg p (tD p n La ws (rows.getD i ⟨[],[],[]⟩) i s j:Int) ((s:Int)+Pa (fun j=>uD p n La ws rows j i) j)
 | 0=>Cg.of_eq (by rw [Pa];show (s:Int)=_;omega)
 | j+1=>by
  rw [Pa];refine (ZR (zAp n La ws rows i s j) _ _).trans (Cg.of_eq ?_);unfold uD;omega
theorem zAn {p:Nat} (n La:Nat) (ws:List Nat) (rows:List Ua):∀ i,Cg p (sJ p n La ws rows i:Int) (Pa (fun i=>Pa (fun j=>uD p n La ws rows j i) 3) i)
 | 0=>Cg.rfl'
 | i+1=>by
  rw [Pa];exact (zAp n La ws rows i _ 3).trans ((zAn n La ws rows i).add Cg.rfl')
theorem zAm {p:Nat} (n La:Nat) (ws:List Nat) (rows:List Ua) (k s:Nat):∀ i,Cg p (tgI p n La ws rows k s i:Int) ((s:Int)+Pa (fun i=>uD p n La ws rows k i) i)
 | 0=>Cg.of_eq (by rw [Pa];show (s:Int)=_;omega)
 | i+1=>by
  rw [Pa];refine (ZR (zAm n La ws rows k s i) _ _).trans (Cg.of_eq ?_);unfold uD;omega
theorem FW {p:Nat} (n La:Nat) (ws:List Nat) (rows:List Ua):∀ k,Cg p (Ir p n La ws rows k:Int) (Pa (fun k=>Pa (fun i=>uD p n La ws rows k i) n) k)
 | 0=>Cg.rfl'
 | k+1=>by
  rw [Pa];exact (zAm n La ws rows k _ n).trans ((FW n La ws rows k).add Cg.rfl')
theorem tgS_lt {p:Nat} (hp:0<p) (n La:Nat) (ws:List Nat) (r:Ua) (i:Nat) {s:Nat} (hs:s<p):∀ j,tD p n La ws r i s j<p
 | 0=>hs
 | _+1=>ic _ hp
theorem zAo {p:Nat} (hp:0<p) (n La:Nat) (ws:List Nat) (rows:List Ua):∀ i,sJ p n La ws rows i<p
 | 0=>hp
 | i+1=>tgS_lt hp _ _ _ _ _ (zAo hp n La ws rows i) 3
theorem tgI_lt {p:Nat} (hp:0<p) (n La:Nat) (ws:List Nat) (rows:List Ua) (k:Nat) {s:Nat} (hs:s<p):∀ i,tgI p n La ws rows k s i<p
 | 0=>hs
 | _+1=>ic _ hp
theorem IW {p:Nat} (hp:0<p) (n La:Nat) (ws:List Nat) (rows:List Ua):∀ k,Ir p n La ws rows k<p
 | 0=>hp
 | k+1=>tgI_lt hp _ _ _ _ _ (IW hp n La ws rows k) n
theorem zHU {p:Nat} (hp:0<p) (n La:Nat) (ws:List Nat) (rows:List Ua):sJ p n La ws rows n=Ir p n La ws rows 3:=by
 refine Cg.eq (p:=p) ((zAn n La ws rows n).trans (Cg.trans (Cg.of_eq ?_) (FW n La ws rows 3).symm)) (zAo hp _ _ _ _ _) (IW hp _ _ _ _ _);exact IA (fun i j=>uD p n La ws rows j i) 3 n
theorem zFL (p:Nat) (A B:Option vy) (len c n d:Nat) (l:List (Int × Nat)) (ws:List Nat) (w:vw) (hl:RLin w [ve A len c] l) (hw:RWd w [ve B n d] ws) (hp:Fb p=true) :
  vB prog 124 #[vd vn p,ve A len c,ve B n d] w fun e w'=>e=vl (vd vn (Ec p l ws:Nat)) /\ vA w.1.size w w':=by
 obtain ⟨A',n',c',he,hlen,Ld,Ef,Ra⟩:=hl;simp at he
 obtain ⟨rfl,rfl,rfl⟩:=he;subst hlen;obtain ⟨B',m',d',he,Xs,hmy,Vf,hlw⟩:=hw;simp at he
 obtain ⟨rfl,rfl,rfl⟩:=he;have hm:ws.length=n:=by have:=Vf.len1;rwa [tt] at this
 subst hm;have g0:(l.length:Int) <= 9223372036854775807:=by
  simp [maxLen] at Ef
  omega
 have HA:=zH (fun a b w=>Om p a b w hp)
 have HM:=zH (fun a b w=>Nq p a b w hp)
 have HW:=zH (fun (k:Nat) (hk:k<ws.length)=>(Jy Vf (by omega)).imp fun b' h=>h.imp fun q' h=>(⟨h.1,h.2.1,(h.2.2 k hk).trans (yB hk)⟩:_ /\ _ /\ _=vE (vd vn (ws[k]:Int))))
 clear Xs hmy Vf hlw Ld Ef hp;unfold fv at *;have kf:=Blk.new w 224 #[vd vn p];have da:vA w.1.size w (w.alloc (.cells #[vd vn p] 224)):=(Ca _ _).alloc zR _;go_enter func124,ntmps124
 go_wp2_with fail
 generalize w.alloc _=w1 at kf da |-;go_loopw [8,15] (fun s i wr=>∃ j:Nat,j <= l.length /\ i=vd vq j /\ s=vd vn (Ec p (l.take j) ws:Nat) /\ Blk wr w.1.size 224 #[vd vn p] /\ vA w.1.size w wr)
  (fun _ i _=>l.length-(intOf i).toNat)
 case atStart=>exact ⟨0,Mb _,rfl,rfl,kf,da⟩
 case round =>
  clear kf da;obtain ⟨j,hj,rfl,rfl,kf,hb⟩:=hrel;by_cases ta:j<l.length
  ·have HS:=zH (NP p l ws j ta)
   revert HS
   generalize Ec p (l.take j) ws=s;intro HS;obtain ⟨b,q,rfl⟩:=Ra.base (by omega) (by omega)
   obtain ⟨c1,c2⟩:=RLin.at_ (Ra.below EF hb) ta;have Gb:=Jf _ _ c1;have g1:(0:Int)<=j:=by omega
   have g2:(j:Int)<l.length:=by omega
   revert c1 c2 HS
   generalize hx:(l.getD j (0,0))=t;obtain ⟨x,y⟩:=t;clear hx;simp only;intro HS c1 c2;have ma:=(Ca wr.1.size wr).alloc zR (.cells #[vd vq x,vd vn y] 208);have kx:=Blk.new wr 208 #[vd vq x,vd vn y];by_cases z1:x<0
   ·have d1:decide (0 <= x)=false:=db (by omega)
    have HE:=zH (show Ec p (l.take (j+1)) ws=s by rw [HS.out,ir,ya (by simp;omega)])
    clear HS HW;go_wp2_with fail
    replace kf:=ja kf ma;replace hb:=pa hb ma
    go_roundw
    case rel=>exact ⟨j+1,by omega,by go_num,by rw [HE.out],kf,hb⟩
    case measure=>simp [intOf];omega
   ·obtain ⟨k,rfl⟩:=Zk (show 0 <= x by omega)
    have d1:decide ((0:Int)<=k)=true:=tb (by omega)
    by_cases z2:k<ws.length
    ·have d2:decide ((k:Int)<ws.length)=true:=tb (by omega)
     obtain ⟨b',q',rfl,Qs,c3⟩:=HW.out k z2;have HE:=zH (show Ec p (l.take (j+1)) ws=(s+y*ws[k]%p)%p by rw [HS.out,ir,Na (by simp;omega)];show (s+y*ws.getD ((k:Int)).toNat 0%p)%p=_;rw [Bk,Cb,Xb z2,Option.getD_some])
     clear HW HS;revert c3 HE
     generalize ws[k]=v;intro c3 HE;obtain ⟨m,hm⟩:=zEX (y*v%p);obtain ⟨r,hr⟩:=zEX ((s+m)%p);rw [<- hm,<- hr] at HE;have Gf:=zH (fun w=>by have:=HM.out y v w;rw [<- hm] at this;exact this)
     have xk:=zH (fun w=>by have:=HA.out s m w;rw [<- hr] at this;exact this)
     have i1:(0:Int)<=k:=by omega
     have i2:(k:Int)<ws.length:=by omega
     clear hm hr;go_upto_region 7 with fail
     replace kf:=ja kf ma;replace hb:=pa hb ma;generalize wr.alloc _=w6 at kf kx hb |-;generalize wr.1.size=gx at kx |-;replace c3:=(hb.cell (p:=⟨b',q'+k,vD⟩) Qs).trans c3;have lb3:b'<w6.1.size:=Kc Qs hb.size;have cf:=kf.cell;have lf:=kf.lt;have cx:=kx.cell;have lx:=kx.lt;clear ma c1 c2 Gb;refine zd (Ub) [10,11] [0,1,2,3,4,5,6,7,8,9,10,11,12] (by kernel_rfl) (by kernel_rfl) ?_
     refine Se (ra) ?_;intro Wc Ja ia;have Ka:=Tf Ja;refine Qb ?_;refine Bc (ra) rfl rfl rfl (fun _=>by go_simp <;> rfl) ((Gf.out _).mono ?_)
     rintro e w7 ⟨rfl,xd⟩;refine ⟨_,rfl,xd,?_⟩;replace ia:=(ra).trans _ _ _ ia (xd);refine zPU ?_;refine Qb ?_;refine Bc (ra) rfl rfl rfl (fun _=>by go_simp <;> rfl) ((xk.out _).mono ?_)
     rintro e w8 ⟨rfl,Uj⟩;refine ⟨_,rfl,Uj,?_⟩;replace ia:=(ra).trans _ _ _ ia (Uj);refine zPU ?_;refine Qb ?_;refine Jc ?_;have Xp:=pa (pa Ka xd) Uj;replace kf:=ja kf Xp;replace hb:=pa hb Xp;clear Xp Ka xd Uj ia Ja c3 lb3 cf lf cx lx;go_wp2_with fail
     go_roundw
     case rel=>exact ⟨j+1,by omega,by go_num,by rw [HE.out],kf,hb⟩
     case measure=>simp [intOf];omega
    ·have d2:decide ((k:Int)<ws.length)=false:=db (by omega)
     have HE:=zH (show Ec p (l.take (j+1)) ws=s by rw [HS.out,ir,ya (by simp;omega)])
     clear HS HW;go_wp2_with fail
     replace kf:=ja kf ma;replace hb:=pa hb ma
     go_roundw
     case rel=>exact ⟨j+1,by omega,by go_num,by rw [HE.out],kf,hb⟩
     case measure=>simp [intOf];omega
  ·obtain rfl:j=l.length:=by omega
   have g2:¬((l.length:Int)<l.length):=by omega
   go_wp2;go_ret
   exact ⟨rfl,hb⟩
theorem zFJ (L:Ma) (pu La:Nat) (vars:Int) (A B:Option vy) (R c d:Nat) (rows:List Ua) (pub:List Nat) (w:vw) (hL:Lb L) (hF:eu L pu vars rows) (hr:RSl 3 Ud w [ve A R c] rows) (Wq:RWd w [ve B pu d] pub) :
  vB prog 250 #[vf (jb L),Tb L.p (pu:Int) vars (ve A R c),ve B pu d,vd vn La] w fun e w'=>e=vl (vd vn (sJ L.p rows.length La (1 :: pub) rows rows.length:Int)) /\ vA w.1.size w w':=by
 obtain ⟨A',n',c',he,Ng,Ld,nh,Ra⟩:=hr;simp at he
 obtain ⟨rfl,rfl,rfl⟩:=he;have Xq:=hL.r;have aA:=hF.nr;have oy:=hF.small;have hR:R=rows.length:=Ng.symm;have hLR:L.rows=R:=by omega
 have uo:=zH (fun w=>kS L pu vars A R c rows w hL hF Ng)
 have SD:=zH (fun n w hn=>dT L.p La n w hL.p hn)
 have HM:=zH (fun a b w=>Nq L.p a b w hL.p)
 have HA:=zH (fun a b w=>Om L.p a b w hL.p)
 have HVl:=zH (fun A len c l B n d ws w hl hw=>zFL L.p A B len c n d l ws w hl hw hL.p)
 obtain ⟨pw,Vm⟩:∃ pw:Nat -> Nat,pw=fun i=>La^i%L.p:=⟨_,rfl⟩
 have wR:=zH (show (fun i=>La^i%L.p)=pw from Vm.symm)
 obtain ⟨Nw,nP⟩:=zEX (1 :: pub);obtain ⟨fR,Iv⟩:=zEX (sJ L.p rows.length La Nw rows);have Yy:=zH (show fR 0=0 by rw [Iv];rfl)
 have HRS:=zH (show ∀ i (hi:i<rows.length),fR (i+1)=tD L.p R La Nw rows[i] i (fR i) 3 from fun i hi=>by
  rw [Iv,hR];show tD L.p rows.length La Nw (rows.getD i ⟨[],[],[]⟩) i _ 3=_
  rw [Cb,Xb hi]
  rfl)
 have HSS:=zH (show ∀ (r:Ua) i s j,tD L.p R La Nw r i s (j+1)=(tD L.p R La Nw r i s j+pw (j*R+i)*Ec L.p (Gc r j) Nw%L.p)%L.p from fun r i s j=>by rw [Vm];rfl)
 have HEnd:=zH (show sJ L.p rows.length La (1 :: pub) rows rows.length=fR R by rw [Iv,hR,nP])
 rw [HEnd.out];have xx:=zH (show [1]++pub=Nw from nP.symm)
 have Xe:=(Nb Wq).1;have Zb:=zH (show ∀ x∈Nw,x<18446744073709551616 from fun x hx=>by
  rw [nP] at hx;rcases Dh.1 hx with h | h
  ·rw [h];decide
  ·exact (Nb Wq).2.2.2.1 x h)
 have qF:=(Nb Wq).2.2.2.2;obtain ⟨R3,hR3⟩:=zEX (3*R);have e1:(3:Int)*R=(R3:Int):=by omega
 have e2:=ye R3;have d0:((pu:Int)!=pu)=false:=by simp
 have gR:R <= 16384:=by omega
 have gR3:R3 <= 65536:=by omega
 have TD:=zH hR3;have az:=zH hR;have HSM:=zH (show pu <= 4294967296 by omega)
 clear Vm Iv hL hF Xq aA oy hR3 Ld nh Ng hR HEnd nP Xe;unfold jb Tb fv at *;rw [hLR] at uo |-;clear hLR;obtain ⟨kl,kt,da,-⟩:=Eh w 101 25 #[vd vn L.p,vd vq L.block,vd vq L.queries,vd vq L.k,vd vq L.n,vd vq L.secret,vd vq R,vd vq L.a,vd vq L.b,vd vq L.b,vd vq L.b] #[vd vn L.p,vd vq pu,vd vq vars,ve A R c];go_enter func250,ntmps250
 go_upto_region 1 with fail
 generalize (w.alloc _).alloc _=w1 at kl kt da |-;have cl:=kl.cell;have ct:=kt.cell;go_wp2_with fail
 refine (uo.out _).mono ?_;rintro e w2 ⟨rfl,xa⟩;replace kl:=ja kl xa;replace kt:=ja kt xa;replace da:=pa da xa;clear xa cl ct uo;have cl:=kl.cell;have ct:=kt.cell;go_upto_region 4 with fail
 have kf:=Blk.new w2 224 #[vd vn L.p];have ma:=(Ca w2.1.size w2).alloc zR (.cells #[vd vn L.p] 224);replace kl:=ja kl ma;replace kt:=ja kt ma;replace da:=pa da ma;generalize w2.alloc _=w3 at kl kt kf da |-;generalize w2.1.size=gf at kf |-;clear ma cl ct;have cl:=kl.cell;have cf:=kf.cell;go_wp2_with fail
 refine (SD.out R3 _ (by omega)).mono ?_
 rintro e w4 ⟨gp,rfl,-,kp,xa⟩;rw [wR.out] at kp;replace kl:=ja kl xa;replace kt:=ja kt xa;replace kf:=ja kf xa;replace da:=pa da xa;clear xa cl cf SD;have jk:=World.ownsRow_lit (base:=w4.1.size) (e:=22) (size:=1) w4 #[vd vn 1] 1 zR (by simp [maxLen]) rfl
 have ma:=(Ca w4.1.size w4).alloc zR (.cells #[vd vn 1] 22);go_wp2_with (at_builtin;refine uk rfl _ _ rfl Ls rfl jk rfl ((qF.below da).alloc _) (oq pub) (by have:=HSM.out;omega) (by simp) ?_)
 intro vk w5 Aa Wa Dc;have Rx:=tp jk Wa (by simp)
 replace Rx:=ma.trans Rx;have Rv:w5.ownsRow w4.1.size 22 1 vk (1+pu) (Oa Nw):=MF (a:=[1]) Aa xx.out;obtain ⟨Ak,ck,rfl,-⟩:=de Rv;have hk:=yt Rv Zb.out;obtain ⟨nk,yg⟩:=zEX (1+pu);rw [<- yg] at hk |-;replace kl:=ja kl Rx;replace kt:=ja kt Rx;replace kf:=ja kf Rx;replace kp:=ja kp Rx;replace da:=pa da Rx;clear Rx jk ma Aa Wa Dc Rv yg;have ct:=kt.cell;have gRi:(R:Int) <= 16384:=by omega
 go_wp2_with fail
 clear ct;go_loopw [13,45] (fun s y wr=>∃ i:Nat,i <= R /\ y=vd vq i /\ s=vd vn (fR i:Int) /\ vA w5.1.size w5 wr) (fun _ y _=>R-(intOf y).toNat)
 case atStart=>exact ⟨0,Mb _,rfl,by rw [Yy.out];rfl,Ca _ _⟩
 case round =>
  obtain ⟨i,hi,rfl,rfl,hb⟩:=hrel;by_cases ta:i<R
  ·have q1:(i:Int)<R:=by omega
   have q2:(0:Int)<=i:=by omega
   have cq:i<rows.length:=by have:=az.out;omega
   obtain ⟨b,q,rfl⟩:=Ra.base (by omega) (by omega)
   obtain ⟨cs,-,hc,x,y,z,rfl,Zc,Ge,kd⟩:=Ra.get cq;have mh:=pa da hb;have Jb:=Jf _ _ ((hc 0 (by omega)).trans (show [x,y,z][0]?=vE x from rfl))
   have h0:=(mh.cell (p:=⟨b,q+i*3+0,vD⟩) Jb).trans (hc 0 (by omega))
   have h1:=(mh.cell (p:=⟨b,q+i*3+1,vD⟩) Jb).trans (hc 1 (by omega))
   have h2:=(mh.cell (p:=⟨b,q+i*3+2,vD⟩) Jb).trans (hc 2 (by omega))
   rw [ss] at h0;simp only [List.getElem?_cons_zero,List.getElem?_cons_succ] at h0 h1 h2;have pL:=zH (HRS.out i cq);have NG:=zH (HSS.out rows[i] i (fR i));obtain ⟨fS,gI⟩:=zEX (tD L.p R La Nw rows[i] i (fR i));have Gq:=zH (show fR i=fS 0 by rw [gI];rfl)
   rw [<- gI] at pL NG;have VD:=zH (show ∀ k,k<3 -> RLin w [if k=0 then x else if k=1 then y else z] (Gc rows[i] k) from fun k hk=>by
    unfold Gc;rcases (show k=0 \/ k=1 \/ k=2 by omega) with h | h | h <;> subst h
    ·exact Zc
    ·exact Ge
    ·exact kd)
   obtain ⟨sd,zC⟩:=zEX (Gc rows[i]);rw [<- zC] at NG VD;obtain ⟨A1,n1,c1,rfl⟩:=RSl.slc Zc;obtain ⟨A2,n2,c2,rfl⟩:=RSl.slc Ge;obtain ⟨A3,n3,c3,rfl⟩:=RSl.slc kd;have ma:=(Ca wr.1.size wr).alloc zR (.cells #[ve A1 n1 c1,ve A2 n2 c2,ve A3 n3 c3] 211);clear hc Zc Ge kd gI zC mh;have Gb:=Jf _ _ h0;rw [Gq.out];go_wp2_with fail
   go_loopw [13,57] (fun s y wq=>∃ j:Nat,j <= 3 /\ y=vd vq j /\ s=vd vn (fS j:Int) /\ vA w5.1.size w5 wq) (fun _ y _=>3-(intOf y).toNat)
   case atStart=>exact ⟨0,by omega,rfl,rfl,pa hb ma⟩
   case round =>
    clear hb h0 h1 h2 ma Gb;obtain ⟨j,hj,rfl,rfl,hb⟩:=hrel;by_cases Tm:j<3
    ·have q3:(j:Int)<3:=by omega
     have q4:(0:Int)<=j:=by omega
     have yl:=VD.out j Tm;have ix:=fun w=>oP (w:=w) (x:=ve A1 n1 c1) (y:=ve A2 n2 c2) (z:=ve A3 n3 c3) Tm
     obtain ⟨sel,Qf⟩:=zEX ((if j=0 then ve A1 n1 c1 else if j=1 then ve A2 n2 c2 else ve A3 n3 c3))
     rw [<- Qf] at yl ix;have bz:=zH (NG.out j);obtain ⟨ts,uF⟩:=zEX (sd j);rw [<- uF] at yl bz;obtain ⟨jr,iC⟩:=zEX (j*R);obtain ⟨m,hm⟩:=zEX (jr+i);rw [<- iC,<- hm] at bz;have WT:jr <= 2*R:=by rw [iC];exact dE _ (by omega)
     have z1:(j:Int)*R=(jr:Int):=by rw [iC];exact (Uf _ _).symm
     have z2:=ye jr;have z3:(jr:Int)+i=(m:Int):=by omega
     have z4:=ye m;have Bu:m<R3:=by have:=TD.out;omega
     have z5:(m:Int)<R3:=by omega
     have z6:(0:Int)<=m:=by omega
     clear Qf uF iC hm WT;obtain ⟨As,ns,je,rfl⟩:=RSl.slc yl;obtain ⟨px,Yo⟩:=zEX (pw m);obtain ⟨s0,Zo⟩:=zEX (fS j);obtain ⟨s1,Bd⟩:=zEX (fS (j+1));obtain ⟨u,hu⟩:=zEX (Ec L.p ts Nw);obtain ⟨v,hv⟩:=zEX (px*u%L.p);rw [<- Yo,<- Zo,<- Bd,<- hu,<- hv] at bz;have Hn:Hid (∀ w':vw,vA w5.1.size w5 w' -> vB prog 124 #[vd vn L.p,ve As ns je,ve Ak nk ck] w' fun e w2=>e=vl (vd vn u) /\ vA w'.1.size w' w2):=zH (fun w' yi=>by rw [hu];exact HVl.out As ns je ts Ak nk ck Nw w' (uh _ _ _ _ (pa da yi) yl) (Bb yi hk))
     have Gf:Hid (∀ w:vw,vB prog 142 #[vf #[vd vn L.p],vd vn px,vd vn u] w fun e w'=>e=vl (vd vn v) /\ vA w.1.size w w'):=zH (fun w=>by rw [hv];exact HM.out px u w)
     have xk:Hid (∀ w:vw,vB prog 215 #[vf #[vd vn L.p],vd vn s0,vd vn v] w fun e w'=>e=vl (vd vn s1) /\ vA w.1.size w w'):=zH (fun w=>by rw [bz.out];exact HA.out s0 v w)
     have Bh:=zH Bd;have yc:=ja kf hb;have NI:=ja kp hb;have Qk:=ja kl hb;have cf:=yc.cell;have lf:=yc.lt;have CB:=NI.cell m;rw [Mf _ Bu,<- Yo] at CB;have lp:=NI.lt;have cl:=Qk.cell;have ll:=Qk.lt;rw [<- Zo];clear Yo Zo Bd hu hv yc NI Qk yl bz;go_upto_region 14 with fail
     refine zd (Ub) [15,16,17] [0,1,2,3,4,5,6,7,8,9,10,11,12,13,14,15,16,17,18] (by kernel_rfl) (by kernel_rfl) ?_
     refine Se (ra) ?_;intro Wc Ja ia;have Ka:=Tf Ja;replace hb:=pa hb Ka;refine Qb ?_;refine Bc (ra) rfl rfl rfl (fun _=>by go_simp <;> rfl) ((Hn.out _ hb).mono ?_)
     rintro e w6 ⟨rfl,sc⟩;refine ⟨_,rfl,sc,?_⟩;replace ia:=(ra).trans _ _ _ ia (sc);refine zPU ?_;replace hb:=pa hb sc;refine Qb ?_;refine Bc (ra) rfl rfl rfl (fun _=>by go_simp <;> rfl) ((Gf.out _).mono ?_)
     rintro e w7 ⟨rfl,xd⟩;refine ⟨_,rfl,xd,?_⟩;replace ia:=(ra).trans _ _ _ ia (xd);refine zPU ?_;replace hb:=pa hb xd;refine Qb ?_;refine Bc (ra) rfl rfl rfl (fun _=>by go_simp <;> rfl) ((xk.out _).mono ?_)
     rintro e w8 ⟨rfl,Uj⟩;refine ⟨_,rfl,Uj,?_⟩;replace ia:=(ra).trans _ _ _ ia (Uj);refine zPU ?_;replace hb:=pa hb Uj;refine Qb ?_;refine Jc ?_;clear Ka sc xd Uj ia Ja cf lf CB lp cl ll;go_wp2_with fail
     go_roundw
     case rel=>exact ⟨j+1,by omega,by go_num,by rw [Bh.out],hb⟩
     case measure=>simp [intOf];omega
    ·obtain rfl:j=3:=by omega
     go_wp2_with fail
     go_roundw
     case rel=>exact ⟨i+1,by omega,by go_num,by rw [pL.out],hb⟩
     case measure=>simp [intOf];omega
  ·obtain rfl:i=R:=by omega
   have q1:¬((i:Int)<i):=by omega
   go_wp2;go_ret
   exact ⟨rfl,pa da hb⟩
end Go.Proofs.YteoghgbnielkpaaGreat
