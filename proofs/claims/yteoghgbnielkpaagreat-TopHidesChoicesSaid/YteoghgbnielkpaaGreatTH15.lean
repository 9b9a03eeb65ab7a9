/- A part of the proof. No condition. -/
import Derived.Test.YteoghgbnielkpaaGreatTH12
import Derived.Test.YteoghgbnielkpaaGreatTH10

set_option maxRecDepth 100000
set_option maxHeartbeats 8000000
set_option linter.unusedVariables false
set_option linter.unusedSimpArgs false
namespace Go.Proofs.YteoghgbnielkpaaGreat
open Go.RowKit
open Tryz
open Go renaming World->vw, Addr->vy, Calls->vB
open Go.Value renaming int->vd, slice->ve, agg->vf
open Go.IntKind renaming u64->vn, i64->vq
open Go.Ending renaming returned->vl
open Go.RowKit renaming Below->vA
open Go.Act renaming put->vG
open Option renaming none->vD, some->vE
def vN (p pu n Ka:Nat) (rows:List Ya) (k:Nat) (f:Nat -> Nat):Nat -> (Nat -> Nat)
 | 0=>f
 | i+1=>tw p pu (Ka^(k*n+i)%p) (vN p pu n Ka rows k f i) (Nc (rows.getD i ⟨[],[],[]⟩) k) (Nc (rows.getD i ⟨[],[],[]⟩) k).length
def yz (p pu n Ka:Nat) (rows:List Ya):Nat -> (Nat -> Nat)
 | 0=>fun _=>0
 | k+1=>vN p pu n Ka rows k (yz p pu n Ka rows k) n
def Xh (L:Ra) (pu Ka:Nat) (rows:List Ya):List (List Nat) :=
 Gp L.block (ef ((List.range L.secret).map (yz L.p pu rows.length Ka rows 3)) (Pg L.p rows.length Ka 0) (Pg L.p rows.length Ka 1) (Pg L.p rows.length Ka 2)) (ef L.a L.b L.b L.b)
def Fy (s pu x:Nat) (t:Int × Nat):Int:=if t.1-1-(pu:Int)=s then (x:Int)*t.2 else 0
theorem zF4 {p:Nat} (hp:1<p) (pu x:Nat) (f:Nat -> Nat) (t:Int × Nat) (s:Nat):Cg p (DA p pu x f t s:Int) ((f s:Int)-Fy s pu x t):=by
 unfold DA Fy;by_cases h:0 <= t.1-1-(pu:Int)
 ·rw [Qa h]
  by_cases e:t.1-1-(pu:Int)=s
  ·rw [Qa e,e,Lk]
   unfold df;rw [Qa rfl];refine (Cg.mod _).trans ((Cg.of_eq (Al _ _)).trans ?_);refine (Cg.rfl'.add ((UC p _ (by omega)).trans ?_)).trans (Cg.of_eq (Int.sub_eq_add_neg).symm)
   exact Cg.neg ((Cg.mod _).trans (Cg.of_eq (ig _ _)))
  ·rw [La e]
   unfold df;rw [La (by omega)]
   exact Cg.of_eq (by omega)
 ·rw [La h,La (by omega)]
  exact Cg.of_eq (by omega)
theorem YU {p:Nat} {a b t u:Int} (h:Cg p a (b-t)):Cg p (a-u) (b-(t+u)):=by
 obtain ⟨c,hc⟩:=h;exact ⟨c,by omega⟩
theorem SZ {p:Nat} {a t u:Int} (h:Cg p a (-t)):Cg p (a-u) (-(t+u)):=by
 obtain ⟨c,hc⟩:=h;exact ⟨c,by omega⟩
theorem NU {p:Nat} (hp:1<p) (pu x:Nat) (f:Nat -> Nat) (ts:List (Int × Nat)) (s:Nat):∀ n,Cg p (tw p pu x f ts n s:Int) ((f s:Int)-Na (fun t=>Fy s pu x (ts.getD t (0,0))) n)
 | 0=>Cg.of_eq (by rw [Na];show (f s:Int)=_;omega)
 | n+1=>by
  rw [Na];refine (zF4 hp pu x _ _ s).trans ?_;exact YU (NU hp pu x f ts s n)
def yA (p pu n Ka:Nat) (rows:List Ya) (s j i:Nat):Int:=Na (fun t=>Fy s pu (Ka^(j*n+i)%p) ((Nc (rows.getD i ⟨[],[],[]⟩) j).getD t (0,0))) (Nc (rows.getD i ⟨[],[],[]⟩) j).length
theorem Q6 {p:Nat} (hp:1<p) (pu n Ka:Nat) (rows:List Ya) (i:Nat) (f:Nat -> Nat) (s:Nat):∀ j,Cg p (xA p pu n Ka (rows.getD i ⟨[],[],[]⟩) i f j s:Int) ((f s:Int)-Na (fun j=>yA p pu n Ka rows s j i) j)
 | 0=>Cg.of_eq (by rw [Na];show (f s:Int)=_;omega)
 | j+1=>by
  rw [Na];refine (NU hp pu _ _ _ s _).trans ?_;exact YU (Q6 hp pu n Ka rows i f s j)
theorem P6 {p:Nat} (hp:1<p) (pu n Ka:Nat) (rows:List Ya) (s:Nat):∀ i,Cg p (JI p pu n Ka rows i s:Int) (-(Na (fun i=>Na (fun j=>yA p pu n Ka rows s j i) 3) i))
 | 0=>Cg.of_eq rfl
 | i+1=>by
  rw [Na];refine (Q6 hp pu n Ka rows i _ s 3).trans ?_;exact SZ (P6 hp pu n Ka rows s i)
theorem sX {p:Nat} (hp:1<p) (pu n Ka:Nat) (rows:List Ya) (k:Nat) (f:Nat -> Nat) (s:Nat):∀ i,Cg p (vN p pu n Ka rows k f i s:Int) ((f s:Int)-Na (fun i=>yA p pu n Ka rows s k i) i)
 | 0=>Cg.of_eq (by rw [Na];show (f s:Int)=_;omega)
 | i+1=>by
  rw [Na];refine (NU hp pu _ _ _ s _).trans ?_;exact YU (sX hp pu n Ka rows k f s i)
theorem mR {p:Nat} (hp:1<p) (pu n Ka:Nat) (rows:List Ya) (s:Nat):∀ k,Cg p (yz p pu n Ka rows k s:Int) (-(Na (fun k=>Na (fun i=>yA p pu n Ka rows s k i) n) k))
 | 0=>Cg.of_eq rfl
 | k+1=>by
  rw [Na];refine (sX hp pu n Ka rows k _ s n).trans ?_;exact SZ (mR hp pu n Ka rows s k)
theorem zFI {p:Nat} (hp:1<p) (pu n Ka:Nat) (rows:List Ya) (s:Nat):∀ i,JI p pu n Ka rows i s<p:=by
 have hT:∀ (x:Nat) (f:Nat -> Nat) ts t,(∀ k,f k<p) -> ∀ k,tw p pu x f ts t k<p:=fun x f ts t hf=>by
  induction t with
  | zero=>exact hf
  | succ t ih =>
   intro k;show DA p pu x (tw p pu x f ts t) _ k<_
   unfold DA;split
   ·unfold df
    split
    ·exact ic _ (by omega)
    ·exact ih k
   ·exact ih k
 have hS:∀ r i (f:Nat -> Nat),(∀ k,f k<p) -> ∀ j k,xA p pu n Ka r i f j k<p:=fun r i f hf j=>by
  induction j with
  | zero=>exact hf
  | succ j ih=>exact hT _ _ _ _ ih
 have hR:∀ i k,JI p pu n Ka rows i k<p:=fun i=>by
  induction i with
  | zero=>intro k;show 0<p;omega
  | succ i ih=>exact hS _ _ _ ih 3
 exact fun i=>hR i s
theorem zAS {p:Nat} (hp:1<p) (pu n Ka:Nat) (rows:List Ya) (s:Nat):∀ k,yz p pu n Ka rows k s<p:=by
 have hT:∀ (x:Nat) (f:Nat -> Nat) ts t,(∀ k,f k<p) -> ∀ k,tw p pu x f ts t k<p:=fun x f ts t hf=>by
  induction t with
  | zero=>exact hf
  | succ t ih =>
   intro k;show DA p pu x (tw p pu x f ts t) _ k<_
   unfold DA;split
   ·unfold df
    split
    ·exact ic _ (by omega)
    ·exact ih k
   ·exact ih k
 have hI:∀ k (f:Nat -> Nat),(∀ s,f s<p) -> ∀ i s,vN p pu n Ka rows k f i s<p:=fun k f hf i=>by
  induction i with
  | zero=>exact hf
  | succ i ih=>exact hT _ _ _ _ ih
 have hK:∀ k s,yz p pu n Ka rows k s<p:=fun k=>by
  induction k with
  | zero=>intro s;show 0<p;omega
  | succ k ih=>exact hI _ _ ih n
 exact fun k=>hK k s
theorem zFH {p:Nat} (hp:1<p) (pu Ka:Nat) (rows:List Ya) (n s:Nat):JI p pu n Ka rows n s=yz p pu n Ka rows 3 s:=by
 refine Cg.eq (p:=p) ((P6 hp pu n Ka rows s n).trans (Cg.trans (Cg.of_eq ?_) (mR hp pu n Ka rows s 3).symm)) (zFI hp _ _ _ _ _ _) (zAS hp _ _ _ _ _ _);rw [CA (fun i j=>yA p pu n Ka rows s j i) 3 n]
theorem dX {L:Ra} (hp:1<L.p) (pu Ka:Nat) (rows:List Ya):mv L pu Ka rows=Xh L pu Ka rows:=by
 unfold mv Xh;rw [Uu fun s _=>zFH hp pu Ka rows rows.length s]
theorem MT {p:Nat} {n:Int} {l:List (Int × Nat)} (h:yh p n l=true):∀ t∈l,0 <= t.1 /\ t.1<n:=fun t ht=>by
 obtain ⟨i,hi,rfl⟩:=uo ht;unfold yh at h;have h1:=Xd.1 h i (Uh.2 hi);have e:l.getD i (0,0)=l[i]:=by rw [Jb,oc hi];rfl
 unfold Wq at h1;rw [e] at h1;simp only [il,Bool.or_eq_false_iff,qv] at h1;omega
theorem pV {p:Nat} {pub vars:Int} {rows:List Ya} (h:Zc p pub vars rows=true):ox vars rows:=fun r hr k hk t ht=>by
 unfold Zc at h;rw [Cc] at h;have h1:=Xd.1 h.2 r hr;unfold Qm at h1;rw [Cc,Cc] at h1;unfold Nc at ht;rcases (show k=0 \/ k=1 \/ k=2 by omega) with e | e | e <;> subst e
 ·exact MT h1.1.1 t ht
 ·exact MT h1.1.2 t ht
 ·exact MT h1.2 t ht
theorem YP {L:Ra} {p pu:Nat} {vars bl bw qs:Int} {rows:List Ya} (h:Zc p (pu:Int) vars rows=true) (hF:ak L ⟨p,(pu:Int),vars,rows.length,bl,bw,qs⟩):cu L pu vars rows:=by
 simp only [Zc,Cc,il,qv] at h;have h1:L.rows=rows.length:=by rw [hF.eq];rfl
 have h2:L.secret=(vars-1-(pu:Int)).toNat:=by rw [hF.eq];rfl
 have h3:=hF.vars;simp only at h3;exact ⟨h1,by omega,by omega⟩
def kD (p n Ka:Nat) (ws:List Nat) (r:Ya) (i s:Nat):Nat -> Nat
 | 0=>s
 | j+1=>(kD p n Ka ws r i s j+Ka^(j*n+i)%p*Mc p (Nc r j) ws%p)%p
def LI (p n Ka:Nat) (ws:List Nat) (rows:List Ya):Nat -> Nat
 | 0=>0
 | i+1=>kD p n Ka ws (rows.getD i ⟨[],[],[]⟩) i (LI p n Ka ws rows i) 3
def tgI (p n Ka:Nat) (ws:List Nat) (rows:List Ya) (k s:Nat):Nat -> Nat
 | 0=>s
 | i+1=>(tgI p n Ka ws rows k s i+Ka^(k*n+i)%p*Mc p (Nc (rows.getD i ⟨[],[],[]⟩) k) ws%p)%p
def Et (p n Ka:Nat) (ws:List Nat) (rows:List Ya):Nat -> Nat
 | 0=>0
 | k+1=>tgI p n Ka ws rows k (Et p n Ka ws rows k) n
def lD (p n Ka:Nat) (ws:List Nat) (rows:List Ya) (k i:Nat):Int:=((Ka^(k*n+i)%p:Nat):Int)*((Mc p (Nc (rows.getD i ⟨[],[],[]⟩) k) ws:Nat):Int)
theorem PQ {p:Nat} {a:Nat} {s:Int} (h:Cg p (a:Int) s) (x y:Nat):Cg p (((a+x*y%p)%p:Nat):Int) (s+(x:Int)*y):=by
 refine (Cg.mod _).trans ((Cg.of_eq (Al _ _)).trans ?_);exact h.add ((Cg.mod _).trans (Cg.of_eq (ig _ _)))
theorem N7 {p:Nat} (n Ka:Nat) (ws:List Nat) (rows:List Ya) (i s:Nat):∀ j,Cg p (kD p n Ka ws (rows.getD i ⟨[],[],[]⟩) i s j:Int) ((s:Int)+Na (fun j=>lD p n Ka ws rows j i) j)
 | 0=>Cg.of_eq (by rw [Na];show (s:Int)=_;omega)
 | j+1=>by
  rw [Na];refine (PQ (N7 n Ka ws rows i s j) _ _).trans (Cg.of_eq ?_);unfold lD;omega
theorem L7 {p:Nat} (n Ka:Nat) (ws:List Nat) (rows:List Ya):∀ i,Cg p (LI p n Ka ws rows i:Int) (Na (fun i=>Na (fun j=>lD p n Ka ws rows j i) 3) i)
 | 0=>Cg.rfl'
 | i+1=>by
  rw [Na];exact (N7 n Ka ws rows i _ 3).trans ((L7 n Ka ws rows i).add Cg.rfl')
theorem K7 {p:Nat} (n Ka:Nat) (ws:List Nat) (rows:List Ya) (k s:Nat):∀ i,Cg p (tgI p n Ka ws rows k s i:Int) ((s:Int)+Na (fun i=>lD p n Ka ws rows k i) i)
 | 0=>Cg.of_eq (by rw [Na];show (s:Int)=_;omega)
 | i+1=>by
  rw [Na];refine (PQ (K7 n Ka ws rows k s i) _ _).trans (Cg.of_eq ?_);unfold lD;omega
theorem fV {p:Nat} (n Ka:Nat) (ws:List Nat) (rows:List Ya):∀ k,Cg p (Et p n Ka ws rows k:Int) (Na (fun k=>Na (fun i=>lD p n Ka ws rows k i) n) k)
 | 0=>Cg.rfl'
 | k+1=>by
  rw [Na];exact (K7 n Ka ws rows k _ n).trans ((fV n Ka ws rows k).add Cg.rfl')
theorem tgS_lt {p:Nat} (hp:0<p) (n Ka:Nat) (ws:List Nat) (r:Ya) (i:Nat) {s:Nat} (hs:s<p):∀ j,kD p n Ka ws r i s j<p
 | 0=>hs
 | _+1=>ic _ hp
theorem M7 {p:Nat} (hp:0<p) (n Ka:Nat) (ws:List Nat) (rows:List Ya):∀ i,LI p n Ka ws rows i<p
 | 0=>hp
 | i+1=>tgS_lt hp _ _ _ _ _ (M7 hp n Ka ws rows i) 3
theorem tgI_lt {p:Nat} (hp:0<p) (n Ka:Nat) (ws:List Nat) (rows:List Ya) (k:Nat) {s:Nat} (hs:s<p):∀ i,tgI p n Ka ws rows k s i<p
 | 0=>hs
 | _+1=>ic _ hp
theorem gV {p:Nat} (hp:0<p) (n Ka:Nat) (ws:List Nat) (rows:List Ya):∀ k,Et p n Ka ws rows k<p
 | 0=>hp
 | k+1=>tgI_lt hp _ _ _ _ _ (gV hp n Ka ws rows k) n
theorem zF8 {p:Nat} (hp:0<p) (n Ka:Nat) (ws:List Nat) (rows:List Ya):LI p n Ka ws rows n=Et p n Ka ws rows 3:=by
 refine Cg.eq (p:=p) ((L7 n Ka ws rows n).trans (Cg.trans (Cg.of_eq ?_) (fV n Ka ws rows 3).symm)) (M7 hp _ _ _ _ _) (gV hp _ _ _ _ _);exact CA (fun i j=>lD p n Ka ws rows j i) 3 n
theorem zD7 (p:Nat) (A B:Option vy) (len c n d:Nat) (l:List (Int × Nat)) (ws:List Nat) (w:vw) (hl:RLin w [ve A len c] l) (hw:RWd w [ve B n d] ws) (hp:Ib p=true) :
  vB prog 124 #[vd vn p,ve A len c,ve B n d] w fun e w'=>e=vl (vd vn (Mc p l ws:Nat)) /\ vA w.1.size w w':=by
 obtain ⟨A',n',c',he,hlen,He,yf,Ma⟩:=hl;simp at he
 obtain ⟨rfl,rfl,rfl⟩:=he;subst hlen;obtain ⟨B',m',d',he,Mv,hmy,Kg,hlw⟩:=hw;simp at he
 obtain ⟨rfl,rfl,rfl⟩:=he;have hm:ws.length=n:=by have:=Kg.len1;rwa [So] at this
 subst hm;have g0:(l.length:Int) <= 9223372036854775807:=by
  simp [maxLen] at yf
  omega
 have HA:=zH (fun a b w=>xm p a b w hp)
 have HM:=zH (fun a b w=>Gq p a b w hp)
 have HW:=zH (fun (k:Nat) (hk:k<ws.length)=>(Cy Kg (by omega)).imp fun b' h=>h.imp fun q' h=>(⟨h.1,h.2.1,(h.2.2 k hk).trans (YD hk)⟩:_ /\ _ /\ _=vE (vd vn (ws[k]:Int))))
 clear Mv hmy Kg hlw He yf hp;unfold fv at *;have kf:=Blk.new w 224 #[vd vn p];have da:vA w.1.size w (w.alloc (.cells #[vd vn p] 224)):=(za _ _).alloc zR _;go_enter func124,ntmps124
 go_wp2_with fail
 generalize w.alloc _=w1 at kf da |-;go_loopw [8,15] (fun s i wr=>∃ j:Nat,j <= l.length /\ i=vd vq j /\ s=vd vn (Mc p (l.take j) ws:Nat) /\ Blk wr w.1.size 224 #[vd vn p] /\ vA w.1.size w wr)
  (fun _ i _=>l.length-(intOf i).toNat)
 case atStart=>exact ⟨0,Lb _,rfl,rfl,kf,da⟩
 case round =>
  clear kf da;obtain ⟨j,hj,rfl,rfl,kf,hb⟩:=hrel;by_cases ra:j<l.length
  ·have HS:=zH (CO p l ws j ra)
   revert HS
   generalize Mc p (l.take j) ws=s;intro HS;obtain ⟨b,q,rfl⟩:=Ma.base (by omega) (by omega)
   obtain ⟨c1,c2⟩:=RLin.at_ (Ma.below lF hb) ra;have Gb:=mf _ _ c1;have g1:(0:Int)<=j:=by omega
   have g2:(j:Int)<l.length:=by omega
   revert c1 c2 HS
   generalize hx:(l.getD j (0,0))=t;obtain ⟨x,y⟩:=t;clear hx;simp only;intro HS c1 c2;have ja:=(za wr.1.size wr).alloc zR (.cells #[vd vq x,vd vn y] 208);have kx:=Blk.new wr 208 #[vd vq x,vd vn y];by_cases z1:x<0
   ·have d1:decide (0 <= x)=false:=xb (by omega)
    have HE:=zH (show Mc p (l.take (j+1)) ws=s by rw [HS.out,Xq,La (by simp;omega)])
    clear HS HW;go_wp2_with fail
    replace kf:=ia kf ja;replace hb:=ma hb ja
    go_roundw
    case rel=>exact ⟨j+1,by omega,by go_num,by rw [HE.out],kf,hb⟩
    case measure=>simp [intOf];omega
   ·obtain ⟨k,rfl⟩:=Kk (show 0 <= x by omega)
    have d1:decide ((0:Int)<=k)=true:=yb (by omega)
    by_cases z2:k<ws.length
    ·have d2:decide ((k:Int)<ws.length)=true:=yb (by omega)
     obtain ⟨b',q',rfl,Io,c3⟩:=HW.out k z2;have HE:=zH (show Mc p (l.take (j+1)) ws=(s+y*ws[k]%p)%p by rw [HS.out,Xq,Qa (by simp;omega)];show (s+y*ws.getD ((k:Int)).toNat 0%p)%p=_;rw [Lk,Jb,oc z2,Option.getD_some])
     clear HW HS;revert c3 HE
     generalize ws[k]=v;intro c3 HE;obtain ⟨m,hm⟩:=zEX (y*v%p);obtain ⟨r,hr⟩:=zEX ((s+m)%p);rw [<- hm,<- hr] at HE;have Le:=zH (fun w=>by have:=HM.out y v w;rw [<- hm] at this;exact this)
     have xe:=zH (fun w=>by have:=HA.out s m w;rw [<- hr] at this;exact this)
     have i1:(0:Int)<=k:=by omega
     have i2:(k:Int)<ws.length:=by omega
     clear hm hr;go_upto_region 7 with fail
     replace kf:=ia kf ja;replace hb:=ma hb ja;generalize wr.alloc _=w6 at kf kx hb |-;generalize wr.1.size=gx at kx |-;replace c3:=(hb.cell (p:=⟨b',q'+k,vD⟩) Io).trans c3;have lb3:b'<w6.1.size:=Sd Io hb.size;have cf:=kf.cell;have lf:=kf.lt;have cx:=kx.cell;have lx:=kx.lt;clear ja c1 c2 Gb;refine Cd (Tb) [10,11] [0,1,2,3,4,5,6,7,8,9,10,11,12] (by kernel_rfl) (by kernel_rfl) ?_
     refine De (pa) ?_;intro Wc Ha ea;have Ja:=Tf Ha;refine Ob ?_;refine Gc (pa) rfl rfl rfl (fun _=>by go_simp <;> rfl) ((Le.out _).mono ?_)
     rintro e w7 ⟨rfl,pc⟩;refine ⟨_,rfl,pc,?_⟩;replace ea:=(pa).trans _ _ _ ea (pc);refine zPU ?_;refine Ob ?_;refine Gc (pa) rfl rfl rfl (fun _=>by go_simp <;> rfl) ((xe.out _).mono ?_)
     rintro e w8 ⟨rfl,Pj⟩;refine ⟨_,rfl,Pj,?_⟩;replace ea:=(pa).trans _ _ _ ea (Pj);refine zPU ?_;refine Ob ?_;refine Qc ?_;have Sx:=ma (ma Ja pc) Pj;replace kf:=ia kf Sx;replace hb:=ma hb Sx;clear Sx Ja pc Pj ea Ha c3 lb3 cf lf cx lx;go_wp2_with fail
     go_roundw
     case rel=>exact ⟨j+1,by omega,by go_num,by rw [HE.out],kf,hb⟩
     case measure=>simp [intOf];omega
    ·have d2:decide ((k:Int)<ws.length)=false:=xb (by omega)
     have HE:=zH (show Mc p (l.take (j+1)) ws=s by rw [HS.out,Xq,La (by simp;omega)])
     clear HS HW;go_wp2_with fail
     replace kf:=ia kf ja;replace hb:=ma hb ja
     go_roundw
     case rel=>exact ⟨j+1,by omega,by go_num,by rw [HE.out],kf,hb⟩
     case measure=>simp [intOf];omega
  ·obtain rfl:j=l.length:=by omega
   have g2:¬((l.length:Int)<l.length):=by omega
   go_wp2;go_ret
   exact ⟨rfl,hb⟩
theorem zD5 (L:Ra) (pu Ka:Nat) (vars:Int) (A B:Option vy) (R c d:Nat) (rows:List Ya) (pub:List Nat) (w:vw) (hL:Rb L) (hF:cu L pu vars rows) (hr:RSl 3 oe w [ve A R c] rows) (dy:RWd w [ve B pu d] pub) :
  vB prog 250 #[vf (Db L),sc L.p (pu:Int) vars (ve A R c),ve B pu d,vd vn Ka] w fun e w'=>e=vl (vd vn (LI L.p rows.length Ka (1 :: pub) rows rows.length:Int)) /\ vA w.1.size w w':=by
 obtain ⟨A',n',c',he,zg,He,ah,Ma⟩:=hr;simp at he
 obtain ⟨rfl,rfl,rfl⟩:=he;have Oo:=hL.r;have Rz:=hF.nr;have jt:=hF.small;have hR:R=rows.length:=zg.symm;have hLR:L.rows=R:=by omega
 have jo:=zH (fun w=>YQ L pu vars A R c rows w hL hF zg)
 have GD:=zH (fun n w hn=>OR L.p Ka n w hL.p hn)
 have HM:=zH (fun a b w=>Gq L.p a b w hL.p)
 have HA:=zH (fun a b w=>xm L.p a b w hL.p)
 have HVl:=zH (fun A len c l B n d ws w hl hw=>zD7 L.p A B len c n d l ws w hl hw hL.p)
 obtain ⟨pw,Gm⟩:∃ pw:Nat -> Nat,pw=fun i=>Ka^i%L.p:=⟨_,rfl⟩
 have rQ:=zH (show (fun i=>Ka^i%L.p)=pw from Gm.symm)
 obtain ⟨Fw,jO⟩:=zEX (1 :: pub);obtain ⟨fR,Jv⟩:=zEX (LI L.p rows.length Ka Fw rows);have Wy:=zH (show fR 0=0 by rw [Jv];rfl)
 have Xy:=zH (show ∀ i (hi:i<rows.length),fR (i+1)=kD L.p R Ka Fw rows[i] i (fR i) 3 from fun i hi=>by
  rw [Jv,hR];show kD L.p rows.length Ka Fw (rows.getD i ⟨[],[],[]⟩) i _ 3=_
  rw [Jb,oc hi]
  rfl)
 have HSS:=zH (show ∀ (r:Ya) i s j,kD L.p R Ka Fw r i s (j+1)=(kD L.p R Ka Fw r i s j+pw (j*R+i)*Mc L.p (Nc r j) Fw%L.p)%L.p from fun r i s j=>by rw [Gm];rfl)
 have HEnd:=zH (show LI L.p rows.length Ka (1 :: pub) rows rows.length=fR R by rw [Jv,hR,jO])
 rw [HEnd.out];have tp:=zH (show [1]++pub=Fw from jO.symm)
 have Pe:=(Qb dy).1;have Wb:=zH (show ∀ x∈Fw,x<18446744073709551616 from fun x hx=>by
  rw [jO] at hx;rcases Xg.1 hx with h | h
  ·rw [h];decide
  ·exact (Qb dy).2.2.2.1 x h)
 have VE:=(Qb dy).2.2.2.2;obtain ⟨R3,hR3⟩:=zEX (3*R);have e1:(3:Int)*R=(R3:Int):=by omega
 have e2:=Ce R3;have d0:((pu:Int)!=pu)=false:=by simp
 have gR:R <= 16384:=by omega
 have gR3:R3 <= 65536:=by omega
 have ID:=zH hR3;have pG:=zH hR;have Zw:=zH (show pu <= 4294967296 by omega)
 clear Gm Jv hL hF Oo Rz jt hR3 He ah zg hR HEnd jO Pe;unfold Db sc fv at *;rw [hLR] at jo |-;clear hLR;obtain ⟨kl,kt,da,-⟩:=Ih w 101 25 #[vd vn L.p,vd vq L.block,vd vq L.queries,vd vq L.k,vd vq L.n,vd vq L.secret,vd vq R,vd vq L.a,vd vq L.b,vd vq L.b,vd vq L.b] #[vd vn L.p,vd vq pu,vd vq vars,ve A R c];go_enter func250,ntmps250
 go_upto_region 1 with fail
 generalize (w.alloc _).alloc _=w1 at kl kt da |-;have cl:=kl.cell;have ct:=kt.cell;go_wp2_with fail
 refine (jo.out _).mono ?_;rintro e w2 ⟨rfl,ta⟩;replace kl:=ia kl ta;replace kt:=ia kt ta;replace da:=ma da ta;clear ta cl ct jo;have cl:=kl.cell;have ct:=kt.cell;go_upto_region 4 with fail
 have kf:=Blk.new w2 224 #[vd vn L.p];have ja:=(za w2.1.size w2).alloc zR (.cells #[vd vn L.p] 224);replace kl:=ia kl ja;replace kt:=ia kt ja;replace da:=ma da ja;generalize w2.alloc _=w3 at kl kt kf da |-;generalize w2.1.size=gf at kf |-;clear ja cl ct;have cl:=kl.cell;have cf:=kf.cell;go_wp2_with fail
 refine (GD.out R3 _ (by omega)).mono ?_
 rintro e w4 ⟨gp,rfl,-,kp,ta⟩;rw [rQ.out] at kp;replace kl:=ia kl ta;replace kt:=ia kt ta;replace kf:=ia kf ta;replace da:=ma da ta;clear ta cl cf GD;have Uj:=World.ownsRow_lit (base:=w4.1.size) (e:=22) (size:=1) w4 #[vd vn 1] 1 zR (by simp [maxLen]) rfl
 have ja:=(za w4.1.size w4).alloc zR (.cells #[vd vn 1] 22);go_wp2_with (at_builtin;refine oh rfl _ _ rfl Hp rfl Uj rfl ((VE.below da).alloc _) (Ck pub) (by have:=Zw.out;omega) (by simp) ?_)
 intro vk w5 xa Va Zb;have Ix:=Sl Uj Va (by simp)
 replace Ix:=ja.trans Ix;have Hn:w5.ownsRow w4.1.size 22 1 vk (1+pu) (Ia Fw):=dA (a:=[1]) xa tp.out;obtain ⟨Ak,ck,rfl,-⟩:=ud Hn;have hk:=Om Hn Wb.out;obtain ⟨nk,og⟩:=zEX (1+pu);rw [<- og] at hk |-;replace kl:=ia kl Ix;replace kt:=ia kt Ix;replace kf:=ia kf Ix;replace kp:=ia kp Ix;replace da:=ma da Ix;clear Ix Uj ja xa Va Zb Hn og;have ct:=kt.cell;have gRi:(R:Int) <= 16384:=by omega
 go_wp2_with fail
 clear ct;go_loopw [13,45] (fun s y wr=>∃ i:Nat,i <= R /\ y=vd vq i /\ s=vd vn (fR i:Int) /\ vA w5.1.size w5 wr) (fun _ y _=>R-(intOf y).toNat)
 case atStart=>exact ⟨0,Lb _,rfl,by rw [Wy.out];rfl,za _ _⟩
 case round =>
  obtain ⟨i,hi,rfl,rfl,hb⟩:=hrel;by_cases ra:i<R
  ·have q1:(i:Int)<R:=by omega
   have q2:(0:Int)<=i:=by omega
   have Qp:i<rows.length:=by have:=pG.out;omega
   obtain ⟨b,q,rfl⟩:=Ma.base (by omega) (by omega)
   obtain ⟨cs,-,hc,x,y,z,rfl,Yc,de,Nd⟩:=Ma.get Qp;have fj:=ma da hb;have Fb:=mf _ _ ((hc 0 (by omega)).trans (show [x,y,z][0]?=vE x from rfl))
   have h0:=(fj.cell (p:=⟨b,q+i*3+0,vD⟩) Fb).trans (hc 0 (by omega))
   have h1:=(fj.cell (p:=⟨b,q+i*3+1,vD⟩) Fb).trans (hc 1 (by omega))
   have h2:=(fj.cell (p:=⟨b,q+i*3+2,vD⟩) Fb).trans (hc 2 (by omega))
   rw [Nat.add_zero] at h0;simp only [List.getElem?_cons_zero,List.getElem?_cons_succ] at h0 h1 h2;have IK:=zH (Xy.out i Qp);have qG:=zH (HSS.out rows[i] i (fR i));obtain ⟨fS,DH⟩:=zEX (kD L.p R Ka Fw rows[i] i (fR i));have tq:=zH (show fR i=fS 0 by rw [DH];rfl)
   rw [<- DH] at IK qG;have JD:=zH (show ∀ k,k<3 -> RLin w [if k=0 then x else if k=1 then y else z] (Nc rows[i] k) from fun k hk=>by
    unfold Nc;rcases (show k=0 \/ k=1 \/ k=2 by omega) with h | h | h <;> subst h
    ·exact Yc
    ·exact de
    ·exact Nd)
   obtain ⟨sd,uC⟩:=zEX (Nc rows[i]);rw [<- uC] at qG JD;obtain ⟨A1,n1,c1,rfl⟩:=RSl.slc Yc;obtain ⟨A2,n2,c2,rfl⟩:=RSl.slc de;obtain ⟨A3,n3,c3,rfl⟩:=RSl.slc Nd;have ja:=(za wr.1.size wr).alloc zR (.cells #[ve A1 n1 c1,ve A2 n2 c2,ve A3 n3 c3] 211);clear hc Yc de Nd DH uC fj;have Gb:=mf _ _ h0;rw [tq.out];go_wp2_with fail
   go_loopw [13,57] (fun s y wq=>∃ j:Nat,j <= 3 /\ y=vd vq j /\ s=vd vn (fS j:Int) /\ vA w5.1.size w5 wq) (fun _ y _=>3-(intOf y).toNat)
   case atStart=>exact ⟨0,by omega,rfl,rfl,ma hb ja⟩
   case round =>
    clear hb h0 h1 h2 ja Gb;obtain ⟨j,hj,rfl,rfl,hb⟩:=hrel;by_cases Sk:j<3
    ·have q3:(j:Int)<3:=by omega
     have q4:(0:Int)<=j:=by omega
     have Uk:=JD.out j Sk;have ix:=fun w=>kO (w:=w) (x:=ve A1 n1 c1) (y:=ve A2 n2 c2) (z:=ve A3 n3 c3) Sk
     obtain ⟨sel,If⟩:=zEX ((if j=0 then ve A1 n1 c1 else if j=1 then ve A2 n2 c2 else ve A3 n3 c3))
     rw [<- If] at Uk ix;have Yy:=zH (qG.out j);obtain ⟨ts,ZE⟩:=zEX (sd j);rw [<- ZE] at Uk Yy;obtain ⟨jr,ZB⟩:=zEX (j*R);obtain ⟨m,hm⟩:=zEX (jr+i);rw [<- ZB,<- hm] at Yy;have DS:jr <= 2*R:=by rw [ZB];exact Nat.mul_le_mul_right _ (by omega)
     have z1:(j:Int)*R=(jr:Int):=by rw [ZB];exact (ig _ _).symm
     have z2:=Ce jr;have z3:(jr:Int)+i=(m:Int):=by omega
     have z4:=Ce m;have Rp:m<R3:=by have:=ID.out;omega
     have z5:(m:Int)<R3:=by omega
     have z6:(0:Int)<=m:=by omega
     clear If ZE ZB hm DS;obtain ⟨As,ns,je,rfl⟩:=RSl.slc Uk;obtain ⟨px,Mo⟩:=zEX (pw m);obtain ⟨s0,Tq⟩:=zEX (fS j);obtain ⟨s1,yd⟩:=zEX (fS (j+1));obtain ⟨u,hu⟩:=zEX (Mc L.p ts Fw);obtain ⟨v,hv⟩:=zEX (px*u%L.p);rw [<- Mo,<- Tq,<- yd,<- hu,<- hv] at Yy;have Ik:Hid (∀ w':vw,vA w5.1.size w5 w' -> vB prog 124 #[vd vn L.p,ve As ns je,ve Ak nk ck] w' fun e w2=>e=vl (vd vn u) /\ vA w'.1.size w' w2):=zH (fun w' aj=>by rw [hu];exact HVl.out As ns je ts Ak nk ck Fw w' (gh _ _ _ _ (ma da aj) Uk) (Bb aj hk))
     have Le:Hid (∀ w:vw,vB prog 142 #[vf #[vd vn L.p],vd vn px,vd vn u] w fun e w'=>e=vl (vd vn v) /\ vA w.1.size w w'):=zH (fun w=>by rw [hv];exact HM.out px u w)
     have xe:Hid (∀ w:vw,vB prog 215 #[vf #[vd vn L.p],vd vn s0,vd vn v] w fun e w'=>e=vl (vd vn s1) /\ vA w.1.size w w'):=zH (fun w=>by rw [Yy.out];exact HA.out s0 v w)
     have Vg:=zH yd;have Hc:=ia kf hb;have gI:=ia kp hb;have zk:=ia kl hb;have cf:=Hc.cell;have lf:=Hc.lt;have zB:=gI.cell m;rw [Ff _ Rp,<- Mo] at zB;have lp:=gI.lt;have cl:=zk.cell;have ll:=zk.lt;rw [<- Tq];clear Mo Tq yd hu hv Hc gI zk Uk Yy;go_upto_region 14 with fail
     refine Cd (Tb) [15,16,17] [0,1,2,3,4,5,6,7,8,9,10,11,12,13,14,15,16,17,18] (by kernel_rfl) (by kernel_rfl) ?_
     refine De (pa) ?_;intro Wc Ha ea;have Ja:=Tf Ha;replace hb:=ma hb Ja;refine Ob ?_;refine Gc (pa) rfl rfl rfl (fun _=>by go_simp <;> rfl) ((Ik.out _ hb).mono ?_)
     rintro e w6 ⟨rfl,Ec⟩;refine ⟨_,rfl,Ec,?_⟩;replace ea:=(pa).trans _ _ _ ea (Ec);refine zPU ?_;replace hb:=ma hb Ec;refine Ob ?_;refine Gc (pa) rfl rfl rfl (fun _=>by go_simp <;> rfl) ((Le.out _).mono ?_)
     rintro e w7 ⟨rfl,pc⟩;refine ⟨_,rfl,pc,?_⟩;replace ea:=(pa).trans _ _ _ ea (pc);refine zPU ?_;replace hb:=ma hb pc;refine Ob ?_;refine Gc (pa) rfl rfl rfl (fun _=>by go_simp <;> rfl) ((xe.out _).mono ?_)
     rintro e w8 ⟨rfl,Pj⟩;refine ⟨_,rfl,Pj,?_⟩;replace ea:=(pa).trans _ _ _ ea (Pj);refine zPU ?_;replace hb:=ma hb Pj;refine Ob ?_;refine Qc ?_;clear Ja Ec pc Pj ea Ha cf lf zB lp cl ll;go_wp2_with fail
     go_roundw
     case rel=>exact ⟨j+1,by omega,by go_num,by rw [Vg.out],hb⟩
     case measure=>simp [intOf];omega
    ·obtain rfl:j=3:=by omega
     go_wp2_with fail
     go_roundw
     case rel=>exact ⟨i+1,by omega,by go_num,by rw [IK.out],hb⟩
     case measure=>simp [intOf];omega
  ·obtain rfl:i=R:=by omega
   have q1:¬((i:Int)<i):=by omega
   go_wp2;go_ret
   exact ⟨rfl,ma da hb⟩
end Go.Proofs.YteoghgbnielkpaaGreat
