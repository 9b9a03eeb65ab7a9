/- A part of the proof. No condition. -/
import Derived.Test.YteoghgbnielkpaaGreatTH5
import Derived.Test.YteoghgbnielkpaaGreatTH6
import Derived.Deep.AppendLies

set_option maxRecDepth 100000
set_option maxHeartbeats 8000000
set_option linter.unusedVariables false
set_option linter.unusedSimpArgs false
namespace Go.Proofs.YteoghgbnielkpaaGreat
open Go.RowKit
open Tryz
open Go renaming World->vw, Value->vx, Addr->vy, TypeId->vz, Calls->vB
open Go.Value renaming int->vd, slice->ve, agg->vf
open Go.IntKind renaming u64->vn, i64->vq
open Go.Ending renaming returned->vl
open Go.RowKit renaming Below->vA
open Go.Act renaming put->vG
open Option renaming none->vD, some->vE
theorem zE7 {w:vw} {A:Option vy} {n k:Nat} {l:List Nat} (h:Rd w 1 A n (Ia l)) (hk:k <= n):Rd w 1 A k (Ia (l.take k)):=by
 have hl:(Ia l).length=n*1:=h.1;refine ⟨by rw [So] at hl |-;simp;omega,fun h0=>?_⟩
 obtain ⟨ad,e,hc⟩:=h.2 (by omega)
 refine ⟨ad,e,fun j u hj=>hc j u ?_⟩
 have:Ia (l.take k)=(Ia l).take k:=by simp [Ia,List.map_take]
 rw [this,List.getElem?_take] at hj;split at hj
 ·exact hj
 ·cases hj
theorem zFt {w:vw} {v:vx} {l:List Nat} (h:RWd w [v] l):∃ A c,v=ve A l.length c:=by
 obtain ⟨A,n,c,he,-,-,h3,-⟩:=id h;simp at he
 subst he;have:=h3.len1;rw [So] at this;subst this;exact ⟨A,c,rfl⟩
def nJ (p a b:Nat):Nat -> Nat
 | 0=>a
 | k+1=>nJ p a b k*b%p
def qh (p s n:Nat):Nat -> Nat:=nJ p (s%p) (ye p n)
def Xs (p x:Nat):List Nat -> Nat
 | []=>0
 | c :: l=>(Xs p x l*x%p+c)%p
theorem zB1 {p:Nat} (hp:0<p) (x:Nat):∀ l,Xs p x l<p
 | []=>hp
 | _ :: _=>ic _ hp
theorem zB0 (p x:Nat) (l:List Nat) (k:Nat) (h:k<l.length):Xs p x (l.drop k)=(Xs p x (l.drop (k+1))*x%p+l.getD k 0)%p:=by
 rw [List.drop_eq_getElem_cons h,Xs,Jb,oc h]
 rfl
theorem zGs {n i v:Nat} {F G:Nat -> Nat} (h:v=F i):(Ia ((List.range n).map (Ch F G i))).set i (vd vn v)=Ia ((List.range n).map (Ch F G (i+1))):=by
 have:=qD (n:=n) (G:=G) h;rw [wv,wv] at this;have h2:=congrArg Array.toList this
 simpa using h2
theorem zGt (n:Nat) (F G:Nat -> Nat):(List.range n).map (Ch F G 0)=(List.range n).map G:=Uu fun i _=>by simp [Ch]
theorem zGr {n i:Nat} (F G:Nat -> Nat) (h:i<n):(Ia ((List.range n).map (Ch F G i)))[i]?=vE (vd vn (G i:Int)):=by simp [Ia,Ch,h]
def intE (p:Nat) (l:List Nat) (i:Nat):Nat:=Xs p (qh p 1 l.length i) l
def lO (p:Nat) (l:List Nat) (s i:Nat):Nat:=intE p l ((l.length-i)%l.length)*nJ p (l.length^(p-2)%p) ((s%p)^(p-2)%p) i%p
def jQ (p b i:Nat):Nat:=if i=0 then p-1 else if i=b then 1 else 0
def Jr (p b:Nat):List Nat:=(List.range (b+1)).map (jQ p b)
theorem rZ (L:Ra) (v0 v2 v3 v4:vx) (A:Option vy) (n c:Nat) (l:List Nat) (w:vw) (h0:slc v0) (h2:slc v2) (h3:slc v3) (h4:slc v4) (hl:RWd w [ve A n c] l) (hn:n <= 60000) :
  vB prog 127 #[vf (Db L),vf #[v0,ve A n c,v2,v3,v4]] w fun e w'=>∃ v,e=vl v /\ w'.ownsRow w.1.size 22 1 v n (Ia l) /\ vA w.1.size w w':=by
 have HV:=zH (fun w' (hb:vA w.1.size w w')=>zAt A n c l w' (Bb hb hl) hn)
 obtain ⟨A0,n0,c0,rfl⟩:=h0;obtain ⟨A2,n2,c2,rfl⟩:=h2;obtain ⟨A3,n3,c3,rfl⟩:=h3;obtain ⟨A4,n4,c4,rfl⟩:=h4;clear hl;unfold Db at *;obtain ⟨kl,kc,da,-⟩:=Ih w 101 41 #[vd vn L.p,vd vq L.block,vd vq L.queries,vd vq L.k,vd vq L.n,vd vq L.secret,vd vq L.rows,vd vq L.a,vd vq L.b,vd vq L.b,vd vq L.b] #[ve A0 n0 c0,ve A n c,ve A2 n2 c2,ve A3 n3 c3,ve A4 n4 c4];go_enter func127,ntmps127
 go_wp2_with fail
 refine (HV.out _ da).mono ?_;rintro e w1 ⟨v,rfl,ho,Ca⟩;obtain ⟨A1,c1,rfl,-⟩:=ud ho;go_wp2;go_ret
 exact ⟨_,rfl,Xk ho da.size,ma da Ca⟩
def py (p b:Nat) (l:List Nat):Nat -> Nat
 | 0=>0
 | k+1=>(py p b l k+Rf p (l.getD ((k+1)*b-1) 0))%p
def bg (L:Ra) (l:List Nat):List Nat:=py L.p L.block l (l.length / L.block) :: l
theorem sZ (L:Ra) (v0 v1 v3 v4:vx) (A:Option vy) (n c:Nat) (l:List Nat) (w:vw) (hL:Rb L) (h0:slc v0) (h1:slc v1) (h3:slc v3) (h4:slc v4) (hl:RWd w [ve A n c] l) (hn:n <= 60000) :
  vB prog 128 #[vf (Db L),vf #[v0,v1,ve A n c,v3,v4]] w fun e w'=>∃ v,e=vl v /\ w'.ownsRow w.1.size 22 1 v (n+1) (Ia (bg L l)) /\ vA w.1.size w w':=by
 have hp:=hL.p;have Ca:=hL.b1;have Aa:=hL.b2;have HS:=zH (fun a b w=>kL L.p a b w hp)
 obtain ⟨rfl,Yc,fh,ra,Ma⟩:=Qb hl;obtain ⟨A0,n0,c0,rfl⟩:=h0;obtain ⟨A1,n1,c1,rfl⟩:=h1;obtain ⟨A3,n3,c3,rfl⟩:=h3;obtain ⟨A4,n4,c4,rfl⟩:=h4;clear hl hL Yc fh hp;have gb:(L.block:Int) <= 256:=by omega
 have gb1:(2:Int)<=L.block:=by omega
 unfold Db fv at *;obtain ⟨kl,kc,kf,da,tb⟩:=rn w 101 41 224 #[vd vn L.p,vd vq L.block,vd vq L.queries,vd vq L.k,vd vq L.n,vd vq L.secret,vd vq L.rows,vd vq L.a,vd vq L.b,vd vq L.b,vd vq L.b] #[ve A0 n0 c0,ve A1 n1 c1,ve A l.length c,ve A3 n3 c3,ve A4 n4 c4] #[vd vn L.p];go_enter func128,ntmps128
 go_upto_region 2 with fail
 generalize ((w.alloc _).alloc _).alloc _=w1 at kl kc kf da tb |-;have HZ:=zH tb;clear tb;have xh:=Ma.below da;have Uj:=World.ownsRow_lit (base:=w1.1.size) (e:=22) (size:=1) w1 #[vd vn 0] 1 zR (by simp [maxLen]) rfl
 have ja:=(za w1.1.size w1).alloc zR (.cells #[vd vn 0] 22);have cc:=kc.cell;have lc:=kc.lt;go_upto_region 3 with (at_builtin;refine oh rfl _ _ rfl Hp rfl Uj rfl (xh.below ja) (Ck l) (by omega) (by simp) ?_;intro v' w2 xa Va Zb)
 have hB:=Sl Uj Va (by simp)
 replace hB:=ja.trans hB;clear Uj Va Zb ja xh cc lc;replace kl:=ia kl hB;replace kf:=ia kf hB;replace da:=ma da hB;clear hB kc;obtain ⟨g,cap,rfl,Oh,-⟩:=World.ownsRow.form xa (by omega)
 have Ss:w.1.size+3 <= g:=by have:=HZ.out;omega
 have e0:(1+l.length)=l.length+1:=Nat.add_comm _ _;rw [e0] at xa |-;replace xa:w2.ownsRow w.1.size 22 1 (ve (vE ⟨g,0,vD⟩) (l.length+1) cap) (l.length+1) (Ia (0 :: l)):=Xk xa (by have:=HZ.out;omega)
 obtain ⟨n,Ag⟩:=zEX (l.length+1);rw [<- Ag] at xa |-;have Bi:=zH Ag;clear Ag e0 Oh HZ;have gn:(n:Int) <= 60001:=by have:=Bi.out;omega
 have cl:=kl.cell;go_wp2_with fail
 clear cl;go_loopw [7] (fun y wr=>∃ k i:Nat,y=vd vq i /\ Hid (i=(k+1)*L.block /\ k*L.block <= l.length) /\ i <= 61000 /\ 1 <= i /\ Blk wr w.1.size 101 #[vd vn L.p,vd vq L.block,vd vq L.queries,vd vq L.k,vd vq L.n,vd vq L.secret,vd vq L.rows,vd vq L.a,vd vq L.b,vd vq L.b,vd vq L.b] /\ Blk wr (w.1.size+1+1) 224 #[vd vn L.p] /\ wr.ownsRow w.1.size 22 1 (ve (vE ⟨g,0,vD⟩) n cap) n (Ia (py L.p L.block l k :: l)) /\ vA w.1.size w wr) (fun y _=>61000-(intOf y).toNat)
 case atStart=>exact ⟨0,L.block,rfl,⟨by omega,by omega⟩,by omega,by omega,kl,kf,xa,da⟩
 case round =>
  clear kl kf xa da;obtain ⟨k,i,rfl,HK,Np,Hf,kl,kf,xa,da⟩:=hrel;have q0:(0:Int)<i:=by omega
  have q9:(i:Int) <= 61000:=by omega
  by_cases dC:i<n
  ·have q1:(i:Int)<n:=by omega
   have q2:(0:Int)<=i:=by omega
   have q3:(0:Int)<n:=by omega
   have q5:0<n:=by omega
   obtain ⟨x,hx⟩:=zEX (py L.p L.block l k);obtain ⟨y,hy⟩:=zEX (l.getD (i-1) 0);obtain ⟨z,hz⟩:=zEX ((x+Rf L.p y)%L.p);obtain ⟨t,ht⟩:=zEX (i+L.block);have e1:(i:Int)+L.block=(t:Int):=by omega
   have e2:=Ce t;have Wg:=zH (show (Ia (x :: l)).set 0 (vd vn z)=Ia (py L.p L.block l (k+1) :: l) by
    rw [hz,hx,hy,HK.out.1];rfl)
   have HT:Hid (t=(k+1+1)*L.block /\ (k+1)*L.block <= l.length):=by
    have h:=HK.out;have h2:=Bi.out;have h3:(k+1+1)*L.block=(k+1)*L.block+L.block:=Nat.succ_mul _ _;exact ⟨by omega,by omega⟩
   have ht3:t <= 61000:=by have:=Bi.out;omega
   have ht4:1 <= t:=by omega
   have HC:=zH (fun w=>by have:=HS.out x y w;rw [<- hz] at this;exact this)
   rw [<- hx] at xa;have c0:wr.cell? ⟨g,0,vD⟩=vE (vd vn x):=by rw [xa.cellAt 0 (by omega)];rfl
   have ci:wr.cell? ⟨g,i,vD⟩=vE (vd vn y):=by
    rw [xa.cellAt i (by omega),YD (by simp;have:=Bi.out;omega)]
    have:(x :: l)[i]'(by simp;have:=Bi.out;omega)=y:=by
     rw [hy,List.getElem_cons,dif_neg (by omega),Jb,oc (show i-1<l.length by have:=Bi.out;omega)]
     rfl
    rw [this]
   clear hx hy hz ht HK;have cf:=kf.cell;have lf:=kf.lt;have lg:g<wr.1.size:=mf _ _ c0;go_upto_region 6 with fail
   refine Ve (Tb) (pa) [11] [11] [0,1,2,3,4,5,6,7,8,9,10,11] (by kernel_rfl) (by kernel_rfl) ?_
   refine Xe (pa) ?_;intro Wc ea;refine kd ?_;refine Uc (pa) rfl rfl rfl rfl (fun _ _ _ h=>h) (fun _=>by go_simp <;> rfl) (fun w' hR=>HC.out _) ?_
   refine zPU ?_;refine kd ?_;refine Ti rfl rfl rfl rfl ?_;intro wh Bc;replace ea:=(pa).trans _ _ _ ea Bc;have Ub:=ma (za wr.1.size wr).drew ea;replace kl:=ia kl Ub;replace kf:=ia kf Ub;replace xa:=Xb xa Ub zR;replace da:=ma da Ub;clear Ub ea Bc cf lf lg c0 ci;have c2:wh.cell? ⟨g,0,vD⟩=vE (vd vn x):=by rw [xa.cellAt 0 (by omega)];rfl
   have f2:=xa.frozenAt;go_simp;refine ⟨fun h=>Bool.noConfusion h,?_⟩
   obtain ⟨Hn,hg⟩:=xa.stored 0 (vd vn z);rw [Wg.out] at Hn;replace kl:=ze kl hg;replace kf:=ze kf hg;replace da:=Dd da hg;clear hg f2 c2 xa;generalize wh.setCell _ _=we at kl kf Hn da |-;refine Dj rfl ?_;have cl:=kl.cell;go_wp2_with fail
   go_roundw
   case rel=>exact ⟨k+1,t,by go_num,HT.out,ht3,ht4,kl,kf,Hn,da⟩
   case measure=>simp [intOf];omega
  ·have q1:¬((i:Int)<n):=by omega
   have HE:=zH (show py L.p L.block l k=py L.p L.block l (l.length / L.block) by
    have h:=HK.out;have h2:=Bi.out;have:l.length / L.block=k:=by
     rw [Nat.div_eq_iff (by omega)]
     have h3:(k+1)*L.block=k*L.block+L.block:=Nat.succ_mul _ _;omega
    rw [this])
   go_wp2;go_ret
   rw [HE.out] at xa;exact ⟨_,rfl,by rw [<- Bi.out];exact xa,da⟩
def yc (p s:Nat) (r:List Nat) (m:Nat):List Nat:=(List.range m).map (wN p s r)
def tA (L:Ra) (s n:Nat):List (List Nat):=(List.range n).map fun k=>yc L.p s [0,k] L.queries
theorem zGy (p s:Nat) (r:List Nat) (m:Nat) (hp:0<p) (uc:p<18446744073709551616):∀ x∈yc p s r m,x<18446744073709551616:=fun x hx=>by
 obtain ⟨k,_,rfl⟩:=ld.1 hx;exact Eh (ic _ hp) uc
theorem zFo (L:Ra) (s k:Nat):tA L s k++[yc L.p s [0,k] L.queries]=tA L s (k+1):=by simp [tA,List.range_succ]
theorem zCd:(prog.info? 28).map (fun i=>(i.zero,i.size,i.bytes))=vE (vE (ve vD 0 0),1,24):=by kernel_rfl
theorem Ex:Jt prog 39 28 1 24 (ve vD 0 0):=by
 obtain ⟨i0,hi,sj,Nd,Bf⟩:=info_parts zCd;exact ⟨underlying39,⟨i0,hi,sj,Nd,Bf⟩,rfl,by omega⟩
theorem J6 (p s:Nat) (r:List Nat) (m g:Nat) (w:vw) (hp:0<p) (uc:p<18446744073709551616) (kg:Blk w g 22 (Ia (s%Za :: r)).toArray) (hr:∀ x∈r,x<18446744073709551616) (hlen:r.length <= 1000) (hm:m <= 65536) :
  vB prog 53 #[vd vn p,vd vq m,ve (vE ⟨g,0,vD⟩) (r.length+1) (r.length+1)] w fun e w'=>∃ v,e=vl v /\ w'.ownsRow w.1.size 22 1 v m (Ia (yc p s r m)) /\ vA w.1.size w w':=by
 have:=zFp p (vE ⟨g,0,vD⟩) (s%Za :: r).length (s%Za :: r).length m (s%Za :: r) w hp uc (NC kg (fun z hz=>by
  rcases Xg.1 hz with rfl | h
  ·exact Eh (ic _ (by decide)) (show Za<18446744073709551616 by decide)
  ·exact hr z h) (by simp [maxLen];omega)) (by simp) (by simp;omega) hm
 exact this
theorem OU {w:vw} {g:Nat} {t:vz} {y0 y1 y2 y3 y4:vx} (k:Blk w g t #[y0,y1,y2,y3,y4]) (x0 x1 x2 x3 x4:vx):Blk (((((w.setCell ⟨g,0,vD⟩ x0).setCell ⟨g,1,vD⟩ x1).setCell ⟨g,2,vD⟩ x2).setCell ⟨g,3,vD⟩ x3).setCell ⟨g,4,vD⟩ x4) g t #[x0,x1,x2,x3,x4]:=by
 have h:=(((((k.set_ 0 x0).set_ 1 x1).set_ 2 x2).set_ 3 x3).set_ 4 x4)
 simpa using h
theorem PU {w:vw} {g:Nat} (x0 x1 x2 x3 x4:vx):w.grownBy (((((w.setCell ⟨g,0,vD⟩ x0).setCell ⟨g,1,vD⟩ x1).setCell ⟨g,2,vD⟩ x2).setCell ⟨g,3,vD⟩ x3).setCell ⟨g,4,vD⟩ x4) (vE g):=by
 iterate 5 refine Mf ?_ (.inl rfl) _
 exact Vd w _
def Ng (n:Nat) (f:Nat -> vx):Array vx:=((List.range n).map f).toArray
theorem RR {n k:Nat} (f:Nat -> vx) (h:k<n):(Ng n f)[k]?=vE (f k):=by simp [Ng,h]
theorem SR {n:Nat} {f g:Nat -> vx} (h:∀ i,i<n -> f i=g i):Ng n f=Ng n g:=by
 unfold Ng
 congr 1
 exact Uu fun i hi=>h i (Uh.1 hi)
theorem zBq {n k:Nat} (f:Nat -> vx) (v:vx):(Ng n f).setIfInBounds k v=Ng n (fun i=>if i=k then v else f i):=by
 apply Array.ext
 ·simp [Ng]
 ·intro i h1 h2
  simp [Ng] at h1 h2
  rw [Array.getElem_setIfInBounds (by simpa [Ng] using h1)]
  simp only [Ng];split
  ·subst_vars;simp
  ·rename_i Ta
   simp [show ¬i=k from fun e=>Ta e.symm]
theorem xZ (n:Nat):madeCells (ve vD 0 0).cells (n*1)=Ng n fun _=>ve vD 0 0:=by
 apply Array.toList_inj.1
 rw [show (ve vD 0 0).cells=#[ve vD 0 0] from rfl,toList_madeCells_one]
 exact List.ext_getElem (by simp [Ng]) fun i h1 h2=>by simp [Ng]
theorem BZ (n:Nat) (hn:n <= 1000000) (w:vw) :
  (Instr.makeSlice 39 (vd vq n) (vd vq n)).run prog w= .ok (ve (vE ⟨w.1.size,0,vD⟩) n n) (w.alloc (.cells (Ng n fun _=>ve vD 0 0) 28)):=by
 have:=JO (P:=prog) Ex n (by omega) (by omega) w
 rw [xZ] at this;exact this
theorem rD {p b:Nat} (hp:0<p) (l:List Nat):∀ i k,gg p b l i k<p
 | 0,_=>hp
 | i+1,k=>by
  simp only [gg,df];split
  ·exact ic _ hp
  ·split
   ·exact ic _ hp
   ·exact rD hp l i k
theorem EZ {L:Ra} (hp:0<L.p) (msg af:List Nat) (k:Nat):Fu L msg af k<L.p:=by
 unfold Fu DF;split
 ·exact ic _ hp
 ·exact rD hp _ _ _
theorem NL {p b:Nat} (hp:0<p) (l:List Nat):∀ k,py p b l k<p
 | 0=>hp
 | _+1=>ic _ hp
def EF (L:Ra) (m r:List (List Nat)) (k:Nat):List Nat:=(List.range (L.block+(r.getD k []).length)).map (Fu L (m.getD k []) (r.getD k []))
def Ay (L:Ra) (m r:List (List Nat)) (n:Nat):List (List Nat):=(List.range n).map (EF L m r)
theorem zEl (L:Ra) (m r:List (List Nat)) (k:Nat):Ay L m r k++[EF L m r k]=Ay L m r (k+1):=by simp [Ay,List.range_succ]
def fM (L:Ra) (q:List Nat):List Nat:=(List.range (L.block+q.length)).map (gg L.p L.block q q.length)
def yj (L:Ra) (m r:List (List Nat)) (c l q:List Nat):List (List Nat):=Ay L m r m.length++[c,bg L l,fM L q]
def Hs (L:Ra) (ps:List (List Nat)) (i j:Nat):Nat:=Kj L.p L.n L.n.log2 (ps.getD j []) (Mb L.p).1 i
theorem zBT {N:Nat} {w w':vw} {v v' x y z:vx} {cs:List vx} {l:List (List Nat)} {a b c:List Nat} (h:jl N w v cs l) (hx:Gi N v.ownBlock w x a) (hy:Gi N v.ownBlock w y b) (hz:Gi N v.ownBlock w z c)
  (hg:w.grownBy w' v.ownBlock) (hv:v'.ownBlock=v.ownBlock \/ v'.ownBlock=vE w.1.size):jl N w' v' (cs++[x,y,z]) (l++[a,b,c]):=by
 have key:∀ {z:vx} {m:List Nat},Gi N v.ownBlock w z m -> Gi N v'.ownBlock w' z m:=fun {z m} hz u hu=>by
  refine hz u fun b h1 h2 h3=>?_
  refine (hu b h1 (by have:=hg.size;omega) ?_).trans (hg.block b h2 (fun e=>h3 e))
  rcases hv with e | e
  ·rw [e];exact h3
  ·rw [e];intro e2;have:=db e2;omega
 refine ⟨by simp [h.1],fun i h1 h2=>?_⟩
 by_cases hi:i<cs.length
 ·rw [Tu hi,Tu (by have:=h.1;omega)]
  exact key (h.2 i hi _)
 ·have e0:=h.1
  have h1':i<cs.length+3:=by simpa using h1
  rw [PD (by omega),PD (by omega)]
  have:i-cs.length=0 \/ i-cs.length=1 \/ i-cs.length=2:=by omega
  have e1:i-l.length=i-cs.length:=by omega
  simp only [e1];rcases this with e | e | e <;> simp only [e]
  ·exact key hx
  ·exact key hy
  ·exact key hz
theorem zE8 (w:vw) (x y z:vx) (t:vz):Rd (w.alloc (.cells #[x,y,z] t)) 1 (vE ⟨w.1.size,0,vD⟩) 3 [x,y,z]:=by
 refine ⟨rfl,fun _=>⟨_,rfl,fun j u hj=>?_⟩⟩
 rw [pn,Mk,(Blk.new w t #[x,y,z]).cell]
 simpa using hj
theorem JP {N g n:Nat} {gb:Option Nat} {w:vw} {t:vz} {f:Nat -> Nat} (h:Blk w g t (Oa n f)) (hf:∀ i,i<n -> f i<18446744073709551616) (hn:n <= maxLen) (hN:N <= g) (hg:vE g≠gb):Gi N gb w (ve (vE ⟨g,0,vD⟩) n n) ((List.range n).map f):=by
 rw [wv] at h;exact LU h (by simp) (fun x hx=>by
  obtain ⟨i,hi,rfl⟩:=ld.1 hx;exact hf i (Uh.1 hi)) hn hN hg
theorem yO {L:Ra} (h:Rb L):dk L.p L.n /\ L.n=2^L.n.log2:=by
 obtain ⟨j,hj⟩:=h.n;refine ⟨⟨by have:=h.nk;have:=h.k;have:=h.b1;omega,by have:=h.n2;omega,⟨j,hj⟩,h.nd⟩,?_⟩
 rw [hj,Nat.log2_two_pow]
theorem zBo {p:Nat} (hp:0<p):∀ (j:Nat) (a:Nat -> Nat) (w k:Nat),(∀ i,a i<p) -> Lj p j a w k<p
 | 0,_,_,k,h=>h k
 | j+1,a,w,k,_=>by
  simp only [Lj];split <;> exact ic _ hp
theorem TV {p n:Nat} (hp:0<p) (l:List Nat) (s:Nat):∀ i k,El p n l s i k<p
 | 0,_=>hp
 | i+1,k=>by
  simp only [El,df];split
  ·exact ic _ hp
  ·exact TV hp l s i k
theorem DN {p:Nat} (hp:0<p) (n j:Nat) (l:List Nat) (s k:Nat):Kj p n j l s k<p:=zBo hp _ _ _ _ (TV hp _ _ _)
theorem fY {p:Nat} (h:Ib p=true):(Mb p).1%p≠0:=by
 rcases Bt h with rfl | rfl | rfl | rfl | rfl | rfl | rfl <;> decide
theorem zEm (L:Ra) (m r:List (List Nat)) (c l q:List Nat):(yj L m r c l q).length=m.length+3:=by simp [yj,Ay]
theorem zEn {L:Ra} {m r:List (List Nat)} {c l q:List Nat} (hb:L.block <= 256) (hr:∀ x∈r,x.length <= 2000) (h1:c.length <= 2000) (h2:l.length <= 2000) (h3:q.length <= 2000):∀ x∈yj L m r c l q,x.length <= 8192:=by
 intro x hx;unfold yj at hx;rcases uq.1 hx with hx | hx
 ·obtain ⟨k,-,rfl⟩:=ld.1 hx
  simp only [EF,fk,nm];have:(r.getD k []).length <= 2000:=by
   rw [Jb];cases h:r[k]? with
   | none=>simp
   | some y=>exact hr y (List.mem_of_getElem? h)
  omega
 ·simp at hx
  rcases hx with rfl | rfl | rfl
  ·omega
  ·simp [bg];omega
  ·simp [fM];omega
def qM (L:Ra) (msg af:List Nat):List Nat:=zy (xq L.p ((List.range msg.length).map (lO L.p msg 1)) (Bk L.p (Jr L.p L.block) af)) L.k
def ow (L:Ra) (q:List Nat):List Nat:=zy (Bk L.p (Jr L.p L.block) q) (2*L.k-1)
theorem IV (p b:Nat):(Jr p b).length=b+1:=by simp [Jr]
def ef {α:Type} (a b c d:α) (i:Nat):α:=if i=0 then a else if i=1 then b else if i=2 then c else d
theorem S6 {α:Type} (a b c d:α) {i:Nat} (h:i<4):(#[a,b,c,d]:Array α)[i]?=vE (ef a b c d i):=by
 rcases (show i=0 \/ i=1 \/ i=2 \/ i=3 by omega) with rfl | rfl | rfl | rfl <;> rfl
def Bq (B:Nat) (v:List Nat) (k:Nat):List Nat:=(List.range B).map fun j=>v.getD (k*B+j) 0
def Is (B:Nat) (v:List Nat) (n:Nat):List (List Nat):=(List.range n).map (Bq B v)
def Pk (B:Nat) (l:Nat -> List Nat) (ps:Nat -> Nat) (i:Nat):List (List Nat):=(List.range i).flatMap fun i=>Is B (l i) (ps i)
def Gp (B:Nat) (l:Nat -> List Nat) (ps:Nat -> Nat):List (List Nat):=Pk B l ps 4
theorem ZK (B:Nat) (l:Nat -> List Nat) (ps:Nat -> Nat) (i:Nat):Pk B l ps (i+1)=Pk B l ps i++Is B (l i) (ps i):=by
 rw [Pk,List.range_succ,List.flatMap_append];simp [Pk]
theorem zAJ (B:Nat) (v:List Nat) (k:Nat):Is B v (k+1)=Is B v k++[Bq B v k]:=by simp [Is,List.range_succ]
theorem zBU {M N:Nat} {w:vw} {v:vx} {cs:List vx} {l:List (List Nat)} (h:jl N w v cs l) (hN:M <= N):jl M w v cs l :=
 ⟨h.1,fun i h1 h2 u hu=>h.2 i h1 h2 u fun b b1 b2 b3=>hu b (by omega) b2 b3⟩
theorem zB9:(prog.info? 206).map (fun i=>(i.zero,i.size,i.bytes))=vE (vE (ve vD 0 0),1,24):=by kernel_rfl
theorem B9 {w:vw}:((isAgg 206).run prog w)= .ok false w:=by simp [isAgg,run_underlying underlying206]
theorem zFO {w:vw}:((sizeOf 206).run prog w)= .ok 1 w:=by
 obtain ⟨i0,hi,sj,Nd,Bf⟩:=info_parts zB9;simp [sizeOf,typeInfo,hi,Nd]
theorem kO {w:vw} {x y z:vx} {k:Nat} (h:k<3):(Instr.index 220 (vf #[x,y,z]) (vd vq k)).run prog w= .ok (if k=0 then x else if k=1 then y else z) w :=
 sM (i:=k) underlying220 B9 zFO h (by
  rcases (show k=0 \/ k=1 \/ k=2 by omega) with rfl | rfl | rfl <;> rfl)
theorem yW {V0:vx} {xs:Nat -> vx} {k:Nat} (h:k<3):(#[V0,xs 0,xs 1,xs 2]:Array vx)[k+1]?=vE (xs k):=by
 rcases (show k=0 \/ k=1 \/ k=2 by omega) with rfl | rfl | rfl <;> rfl
def Nu (xs:Nat -> vx) (k:Nat) (v:vx) (j:Nat):vx:=if j=k then v else xs j
theorem W9 {V0 v:vx} {xs:Nat -> vx} {k:Nat} (h:k<3):(#[V0,xs 0,xs 1,xs 2]:Array vx).setIfInBounds (k+1) v=#[V0,Nu xs k v 0,Nu xs k v 1,Nu xs k v 2]:=by
 rcases (show k=0 \/ k=1 \/ k=2 by omega) with rfl | rfl | rfl <;> rfl
theorem PW {g N b:Nat} {w w':vw} {t:vz} {cs:Array vx} (k:Blk w b t cs) (h:fo g N w w') (hb:b<N) (Ta:b≠g):Blk w' b t cs:=by
 unfold Blk at *;rw [h.2.2.2.2 b hb Ta];exact k
def Nc (r:Ya) (k:Nat):List (Int × Nat):=if k=0 then r.a else if k=1 then r.b else r.c
def Dh (p:Nat) (rows:List Ya) (ws:List Nat) (k:Nat):List Nat:=rows.map fun r=>Mc p (Nc r k) ws
def tj (L:Ra) (rows:List Ya) (ws:List Nat) (pu:Nat):List (List Nat):=Gp L.block (ef (ws.drop (1+pu)) (Dh L.p rows ws 0) (Dh L.p rows ws 1) (Dh L.p rows ws 2)) (ef L.a L.b L.b L.b)
theorem zCA {p:Nat} (hp:0<p) (ws:List Nat) {s:Nat} (hs:s<p) (t:Int × Nat):Xq p ws s t<p:=by
 unfold Xq;split
 ·exact ic _ hp
 ·exact hs
theorem mZ {p:Nat} (hp:0<p) (l:List (Int × Nat)) (ws:List Nat):Mc p l ws<p:=by
 have key:∀ (l:List (Int × Nat)) (s:Nat),s<p -> l.foldl (Xq p ws) s<p:=fun l=>by
  induction l with
  | nil=>exact fun s hs=>hs
  | cons t l ih=>exact fun s hs=>ih _ (zCA hp ws hs t)
 exact key l 0 hp
end Go.Proofs.YteoghgbnielkpaaGreat
