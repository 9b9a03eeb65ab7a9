/- A part of the proof. No condition. -/
import Derived.Test.YtodmnanljoaocaaGreatPU7
import Derived.Carry
import Derived.Maps.Views

set_option maxRecDepth 100000
set_option maxHeartbeats 8000000
set_option linter.unusedVariables false
set_option linter.unusedSimpArgs false
namespace Go.Proofs.YtodmnanljoaocaaGreat
open Go.RowKit
open Tryz
open Go renaming World->vv, Value->vw, Addr->vx, TypeId->vy, Calls->vA
open Go.Value renaming int->vd, slice->ve, agg->vf
open Go.IntKind renaming u64->vq, i64->vt
open Go.Ending renaming returned->vn
open Go.RowKit renaming Below->vz
open Go.World renaming setCell->vE
open Go.Act renaming put->vF
open Option renaming none->vB, some->vD
theorem Q8 (A:Option vx) (n c m:Nat) (l:List Nat) (w:vv) (hl:RWd w [ve A n c] l) (hn:n <= 100000) (hm:m <= 100000) :
  vA prog 180 #[ve A n c,vd vt m] w fun e w'=>∃ v,e=vn v /\ w'.ownsRow w.1.size 22 1 v (lh l m).length (Qa (lh l m)) /\ vz w.1.size w w':=by
 obtain ⟨rfl,h1,h2,ta,Ka⟩:=Mb hl;have ja:=zA w (.cells #[] 22);have HS:=zH (show ∀ k,l++List.replicate k 0++[0]=l++List.replicate (k+1) 0 from fun k=>by rw [Jx,List.replicate_succ'])
 have HP:=zH (show lh l m=l++List.replicate (m-l.length) 0 from rfl)
 rw [HP.out];obtain ⟨f,hf⟩:=zEX (fun k=>l++List.replicate k 0)
 have H0:=zH (show f 0=l by rw [hf];simp)
 have HF:=zH (show ∀ k,f k++[0]=f (k+1) from fun k=>by rw [hf];exact HS.out k)
 rw [show l++List.replicate (m-l.length) 0=f (m-l.length) by rw [hf]]
 clear HS HP hf ta h1 h2 hl;go_enter func180,ntmps180
 go_wp2_with (at_builtin;refine fe rfl _ _ rfl Ag rfl (ju w 22 zR) rfl (Ka.alloc _) (Gf l) zO zS ?_)
 intro v1 w1 oa Ja tb;have hB:=Ee (ju w 22 zR) Ja zS;replace hB:=ja.trans hB;obtain ⟨t,ht⟩:=zEX (l.length);have Jw:w1.ownsRow w.1.size 22 1 v1 t (Qa (f 0)):=by
  rw [H0.out,ht];simpa using oa
 have HT:=zH ht;clear Ja tb oa ja ht Ka;go_wp2_with fail
 go_loopw [5] (fun v wr=>∃ k s:Nat,Hid (s=t+k /\ (k=0 \/ s <= m)) /\ s <= 200000 /\ wr.ownsRow w.1.size 22 1 v s (Qa (f k)) /\ vz w.1.size w wr) (fun v _=>match v with | ve _ n _=>m-n | _=>0)
 case atStart=>exact ⟨0,t,zH ⟨rfl, .inl rfl⟩,by have:=HT.out;omega,Jw,hB⟩
 case round =>
  clear Jw hB;obtain ⟨k,s,HK,hs,oa,hb⟩:=hrel;obtain ⟨A1,c1,rfl,-⟩:=mc oa;by_cases ta:s<m
  ·have g1:(s:Int)<m:=by omega
   have Xe:=zH (HF.out k);go_wp2_with (at_builtin;refine fe rfl _ _ rfl Ag rfl (oa.alloc _) rfl (mh _ _ _) (Gf [0]) zO (by simp;have:=hb.size;omega) ?_)
   intro v' wn Va Ja tb;have ja:=zA wr (.cells #[vd vq (0:Int)] 22);have hB:=Ee (oa.alloc _) Ja (by simp;have:=hb.size;omega)
   replace hb:=(Pk hb ja hb.size).trans hB;replace oa:wn.ownsRow w.1.size 22 1 v' (s+1) (Qa (f (k+1))):=Ii (b:=[0]) Va Xe.out;clear Va Ja tb ja hB;obtain ⟨A2,c2,rfl,-⟩:=mc oa;go_wp2
   go_roundw
   case rel=>exact ⟨k+1,s+1,zH (zQ HK.out),zO,oa,hb⟩
   case measure=>simp;omega
  ·have g1:¬((s:Int)<m):=by omega
   have HE:=zH (show f k=f (m-l.length) by
    have h:=HK.out;have h2:=HT.out;rcases h.2 with h3 | h3
    ·rw [h3,show m-l.length=0 by omega]
    ·rw [show k=m-l.length by omega])
   rw [HE.out] at oa;have mz:=zH (show (f (m-l.length)).length=s by
    have:=oa.1
    simpa [Qa] using this)
   go_wp2;go_ret
   exact ⟨_,rfl,by rw [mz.out];exact oa,hb⟩
theorem V8 (L:Xa) (A B:Option vx) (n c m d:Nat) (msg zh:List Nat) (w:vv) (hL:ed L) (hl:RWd w [ve A n c] msg) (hk:RWd w [ve B m d] zh) (hn:n=L.block) (hm:m <= 30000) :
  vA prog 96 #[vf (Eb L),ve A n c,ve B m d] w fun e w'=>∃ v,e=vn v /\ w'.ownsRow w.1.size 22 1 v (Xw L msg zh).length (Qa (Xw L msg zh)) /\ vz w.1.size w w':=by
 obtain ⟨Lc,Nb⟩:=tc hL.p;have Da:=hL.b2;have Jh:L.k <= 400:=by have:=hL.k;have:=hL.q2;omega
 obtain ⟨hlen,-⟩:=RH hL;have zj:=(Mb hk).1;have qv:=(Mb hl).1;subst hn;have HI:=zH (fun w' (hb:vz w.1.size w w')=>K8 L.p 1 L.block A c msg w' hL.p (Sa hb hl) hlen (by rw [Om zO];decide))
 have HZ:=zH (fun w=>SW L w hL)
 have HM:=zH (fun A n c w' (hb:vz w.1.size w w') ha hn=>YO L.p A B n c m d (ph L.p L.block) zh w' hL.p ha (Sa hb hk) hn zO)
 have HA:=zH (fun A B n c m d a b w ha hb hn hm=>YK L.p A B n c m d a b w hL.p ha hb hn hm)
 have HP:=zH (fun A n c l w hl hn=>Q8 A n c L.k l w hl hn zO)
 have HIL:=zH (show ∀ x∈(List.range L.block).map (Wt L.p msg 1),x<18446744073709551616 from fun x hx=>by
  obtain ⟨i,-,rfl⟩:=Ie.1 hx;exact gg (L3 zO _ _ _) Nb)
 have HR:=zH (show Xw L msg zh=lh (yg L.p ((List.range L.block).map (Wt L.p msg 1)) (Zh L.p (ph L.p L.block) zh)) L.k by rw [Xw,<- qv])
 rw [HR.out];have h1:=zH (show (Zh L.p (ph L.p L.block) zh).length <= 40000 by have:=yF L.p (ph L.p L.block) zh;rw [dG] at this;omega)
 have h2:=zH (show (yg L.p ((List.range L.block).map (Wt L.p msg 1)) (Zh L.p (ph L.p L.block) zh)).length <= 40000 by have:=RB L.p ((List.range L.block).map (Wt L.p msg 1)) (Zh L.p (ph L.p L.block) zh);rw [dw,Lx] at this;have:=h1.out;omega)
 have h3:=zH (dG L.p L.block);have h4:L.block <= 256:=Da;generalize Zh L.p (ph L.p L.block) zh=M at *;generalize (List.range L.block).map (Wt L.p msg 1)=I at *;clear HR hL hl hk hlen zj qv Lc Nb Jh Da hm;unfold Eb at *;obtain ⟨kl,ba⟩:=zN w 38 #[vd vq L.p,vd vt L.block,vd vt L.queries,vd vt L.k,vd vt L.n,vd vt L.secret,vd vt L.rows,vd vt L.a,vd vt L.b,vd vt L.b,vd vt L.b];go_enter func96,ntmps96
 go_wp2_with fail
 generalize w.alloc _=w1 at kl ba |-;refine (HI.out _ ba).mono ?_;rintro e w2 ⟨v1,rfl,oa,ra⟩;replace kl:=ma kl ra;replace ba:=pa ba ra;clear ra;obtain ⟨A1,c1,rfl,-⟩:=mc oa;have hI:=Yf oa HIL.out;clear oa HIL HI;have cl:=kl.cell;have ll:=kl.lt;go_upto_region 2 with fail
 refine Yc (yc) [6,8,9,12] [0,1,2,3,4,5,7,10,11,6,8,9,12,13] zK zK ?_;refine Td (ya) ?_;intro Wc Ca da;have Ma:=Lf Ca;replace ba:=pa ba Ma;replace hI:=Sa Ma hI;refine dc ?_;refine pd ya rfl rfl rfl ((HZ.out _).mono ?_);rintro e w3 ⟨v3,rfl,hZ,Ta⟩;refine ⟨_,rfl,Ta,?_⟩;replace da:=zM ya da (Ta);refine zPU ?_;replace ba:=pa ba Ta;replace hI:=Sa Ta hI;obtain ⟨A3,c3,rfl⟩:=Sg hZ;refine dc ?_;refine pd ya rfl rfl rfl ((HM.out _ _ _ _ ba hZ (by rw [h3.out];omega)).mono ?_)
 rintro e w4 ⟨v4,rfl,hM,Ub⟩;refine ⟨_,rfl,Ub,?_⟩;replace da:=zM ya da (Ub);refine zPU ?_;replace ba:=pa ba Ub;replace hI:=Sa Ub hI;obtain ⟨A4,c4,rfl⟩:=Sg hM;refine dc ?_;refine pd ya rfl rfl rfl ((HA.out _ _ _ _ _ _ _ _ _ hI hM zO (zQ h1.out)).mono ?_);rintro e w5 ⟨v5,rfl,hA,Lb⟩;refine ⟨_,rfl,Lb,?_⟩;replace da:=zM ya da (Lb);refine zPU ?_;replace ba:=pa ba Lb;obtain ⟨A5,c5,rfl⟩:=Sg hA;refine dc ?_;have Rt:=ba.size;refine pd ya rfl rfl rfl ((HP.out _ _ _ _ _ hA (zQ h2.out)).mono ?_);rintro e w6 ⟨v6,rfl,hP,Mc⟩;refine ⟨_,rfl,Mc,?_⟩;replace da:=zM ya da (Mc);refine zPU ?_;replace ba:=pa ba Mc;refine dc ?_;refine Ec ?_;go_wp2;go_ret
 exact ⟨_,rfl,Bh hP Rt,ba⟩
theorem zGA (L:Xa) (v0 v1 v2 v4:vw) (B:Option vx) (m d:Nat) (q:List Nat) (w:vv) (hL:ed L) (g0:slc v0) (g1:slc v1) (g2:slc v2) (g4:slc v4) (hk:RWd w [ve B m d] q) (hm:m <= 30000) :
  vA prog 99 #[vf (Eb L),vf #[v0,v1,v2,ve B m d,v4]] w fun e w'=>∃ v,e=vn v /\ w'.ownsRow w.1.size 22 1 v (qn L q).length (Qa (qn L q)) /\ vz w.1.size w w':=by
 obtain ⟨Lc,Nb⟩:=tc hL.p;have Da:=hL.b2;have Jh:L.k <= 400:=by have:=hL.k;have:=hL.q2;omega
 have Cw:2 <= L.k:=by have:=hL.k;have:=hL.b1;omega
 have zj:=(Mb hk).1;obtain ⟨A0,n0,c0,rfl⟩:=g0;obtain ⟨A1,n1,c1,rfl⟩:=g1;obtain ⟨A2,n2,c2,rfl⟩:=g2;obtain ⟨A4,n4,c4,rfl⟩:=g4;obtain ⟨t,ht⟩:=zEX (2*L.k-1);obtain ⟨u,hu⟩:=zEX (2*L.k);have HZ:=zH (fun w=>SW L w hL)
 have HM:=zH (fun A n c w' (hb:vz w.1.size w w') ha hn=>YO L.p A B n c m d (ph L.p L.block) q w' hL.p ha (Sa hb hk) hn zO)
 have HP:=zH (fun A n c l w hl hn=>Q8 A n c t l w hl hn zO)
 have HR:=zH (show qn L q=lh (Zh L.p (ph L.p L.block) q) t by rw [qn,ht])
 rw [HR.out];have h1:=zH (show (Zh L.p (ph L.p L.block) q).length <= 40000 by have:=yF L.p (ph L.p L.block) q;rw [dG] at this;omega)
 have h3:=zH (dG L.p L.block);have h4:L.block <= 256:=Da;have e1:(2:Int)*L.k=(u:Int):=by omega
 have e2:=Ud u;have e3:(u:Int)-1=(t:Int):=by omega
 have e4:=Ud t;generalize Zh L.p (ph L.p L.block) q=M at *;clear HR hL hk zj Lc Nb Jh Cw Da hm ht hu;unfold Eb at *;obtain ⟨kl,kc,ba,-⟩:=ig w 38 41 #[vd vq L.p,vd vt L.block,vd vt L.queries,vd vt L.k,vd vt L.n,vd vt L.secret,vd vt L.rows,vd vt L.a,vd vt L.b,vd vt L.b,vd vt L.b] #[ve A0 n0 c0,ve A1 n1 c1,ve A2 n2 c2,ve B m d,ve A4 n4 c4];go_enter func99,ntmps99
 go_upto_region 1 with fail
 generalize (w.alloc _).alloc _=w2 at kl kc ba |-;have cl:=kl.cell;have ll:=kl.lt;have cc:=kc.cell;have lc:=kc.lt;refine Yc (yc) [3,6,11] [0,1,2,4,5,7,8,9,10,3,6,11,12] zK zK ?_;refine Td (ya) ?_;intro Wc Ca da;have Ma:=Lf Ca;replace ba:=pa ba Ma;refine dc ?_;refine pd ya rfl rfl rfl ((HZ.out _).mono ?_);rintro e w3 ⟨v3,rfl,hZ,Ta⟩;refine ⟨_,rfl,Ta,?_⟩;replace da:=zM ya da (Ta);refine zPU ?_;replace ba:=pa ba Ta;obtain ⟨A3,c3,rfl⟩:=Sg hZ;refine dc ?_;refine pd ya rfl rfl rfl ((HM.out _ _ _ _ ba hZ (by rw [h3.out];omega)).mono ?_)
 rintro e w4 ⟨v4,rfl,hM,Ub⟩;refine ⟨_,rfl,Ub,?_⟩;replace da:=zM ya da (Ub);refine zPU ?_;replace ba:=pa ba Ub;obtain ⟨A5,c5,rfl⟩:=Sg hM;refine dc ?_;have Rt:=ba.size;refine pd ya rfl rfl rfl ((HP.out _ _ _ _ _ hM (zQ h1.out)).mono ?_);rintro e w6 ⟨v6,rfl,hP,Mc⟩;refine ⟨_,rfl,Mc,?_⟩;replace da:=zM ya da (Mc);refine zPU ?_;replace ba:=pa ba Mc;refine dc ?_;refine Ec ?_;go_wp2;go_ret
 exact ⟨_,rfl,Bh hP Rt,ba⟩
theorem YR {l:List Nat} {B n:Nat} (hB:0<B) (h:∀ x∈l,x<B):∀ x∈lh l n,x<B:=fun x hx=>by
 rcases Lq.1 hx with h' | h'
 ·exact h x h'
 ·rw [(List.mem_replicate.1 h').2];exact hB
theorem zEk {p:Nat} (hp:0<p) {a b:List Nat} {x:Nat} (h:x∈Zh p a b):x<p:=by
 unfold Zh at h;cases e:a.length with
 | zero=>rw [e] at h;cases h
 | succ k=>rw [e,Yi] at h;exact IS hp h
theorem zHc {w u:vv} {v:vw} {l:List Nat} (h:RWd w [v] l) (ha:∀ b,b<w.1.size -> u.1[b]?=w.1[b]?):RWd u [v] l:=by
 obtain ⟨A,n,c,he,h1,h2,h3,h4⟩:=h;refine ⟨A,n,c,he,h1,h2,⟨h3.1,fun h0=>?_⟩,h4⟩
 obtain ⟨ad,e,hc⟩:=h3.2 h0;refine ⟨ad,e,fun j x hj=>?_⟩
 have hx:=hc j x hj;have hb:=Af _ _ hx;rw [<- hx];unfold World.cell?;rw [ha _ hb]
theorem zHe {w0 w:vv} {gb:Option Nat} {v:vw} {l:List Nat} (h:RWd w0 [v] l) (hb:vz w0.1.size w0 w) (hg:∀ q,gb=vD q -> w0.1.size <= q):Bi 0 gb w v l:=fun u hu =>
 zHc h fun b ta=>(hu b (Rb _) (Be ta hb.size) fun e=>by have:=hg b e.symm;omega).trans (hb.block b ta)
def VB (l:List Nat) (i:Nat):Int:=((l.getD i 0:Nat):Int)
def Ci (l:List Nat) (x:Int):Int:=me (VB l) x l.length
theorem zZ {a:Nat -> Int} {x:Int} {m:Nat} (h:∀ i,m <= i -> a i=0):∀ t,me a x (m+t)=me a x m
 | 0=>rfl
 | t+1=>by
  rw [<- Nat.add_assoc,me,zZ h t,h (m+t) zO,Int.zero_mul,Int.add_zero]
theorem XN (l:List Nat) (x:Int) {n:Nat} (h:l.length <= n):me (VB l) x n=Ci l x:=by
 obtain ⟨t,rfl⟩:∃ t,n=l.length+t:=⟨n-l.length,zO⟩;exact zZ (fun i hi=>by rw [VB,uJ hi];rfl) t
theorem xZ (a b:Nat -> Int) (x:Int):∀ n,me (fun i=>a i+b i) x n=me a x n+me b x n
 | 0=>rfl
 | n+1=>by rw [me,me,me,xZ a b x n,Int.add_mul];omega
theorem AZ (c:Int) (a:Nat -> Int) (x:Int):∀ n,me (fun i=>c*a i) x n=c*me a x n
 | 0=>by rw [me,me,Int.mul_zero]
 | n+1=>by rw [me,me,AZ c a x n,Int.mul_add,Int.mul_assoc]
theorem YN {p:Nat} (a b:List Nat) (x:Int):Cg p (Ci (yg p a b) x) (Ci a x+Ci b x):=by
 have hl:=RB p a b;rw [<- XN (yg p a b) x (n:=max a.length b.length) hl,<- XN a x (n:=max a.length b.length) zO,<- XN b x (n:=max a.length b.length) zO,<- xZ];refine oJ (fun i=>?_) Cg.rfl' _
 unfold VB;rw [FL];exact (Cg.mod _).trans (Cg.of_eq (Vv _ _))
theorem wQ {p:Nat} (a:List Nat) (n:Nat) (x:Int):Cg p (Ci (Ol p a n) x) ((n:Int)*Ci a x):=by
 rw [<- XN (Ol p a n) x (PC p a n),Ci,<- AZ];refine oJ (fun i=>?_) Cg.rfl' _
 unfold VB;rw [vS];exact (Cg.mod _).trans (Cg.of_eq (by rw [Th,Int.mul_comm]))
theorem yZ (a:Nat -> Int) (x:Int) (k:Nat) (h:∀ i,i<k -> a i=0):∀ n,me a x (k+n)=x^k*me (fun i=>a (k+i)) x n
 | 0=>by
  show me a x k=x^k*0
  rw [Int.mul_zero,WN,<- sX k];have:∀ n,n <= k -> sc (fun i=>a i*x^i) n=sc (fun _=>0) n:=fun n=>by
   induction n with
   | zero=>exact fun _=>rfl
   | succ n ih=>intro hn;rw [sc,sc,ih zO,h n zO,Int.zero_mul]
  exact this k zR
 | n+1=>by
  rw [<- Nat.add_assoc,me,yZ a x k h n,me,Int.mul_add,Int.pow_add]
  congr 1
  rw [<- Int.mul_assoc,<- Int.mul_assoc,Int.mul_comm (a (k+n))]
theorem zCm (a:List Nat) (k:Nat) (x:Int):Ci (Yw a k) x=x^k*Ci a x:=by
 have e:(Yw a k).length=k+a.length:=jX a k;unfold Ci;rw [e,yZ _ _ k (fun i hi=>by unfold VB;rw [pP,Gb hi];rfl)]
 congr 2
 funext i
 unfold VB;rw [pP,mb zO,Nat.add_sub_cancel_left]
theorem EZ {p:Nat} (a b:List Nat) (x:Int):∀ k,Cg p (Ci (Yi p a b k) x) (me (VB a) x k*Ci b x)
 | 0=>Cg.of_eq (by rw [Yi,me,Int.zero_mul];rfl)
 | k+1=>by
  rw [Yi,me,Int.add_mul];refine (YN _ _ x).trans ((EZ a b x k).add ?_);rw [zCm];refine (Cg.rfl'.mul (wQ b _ x)).trans (Cg.of_eq ?_);rw [<- Int.mul_assoc,Int.mul_comm (x^k)]
  rfl
theorem FZ {p:Nat} (a b:List Nat) (x:Int):Cg p (Ci (Zh p a b) x) (Ci a x*Ci b x):=EZ a b x _
theorem yQ {p x:Nat} (l:List Nat):Cg p (Re p l x:Int) (Ci l x):=GZ l
theorem z7 (p:Nat) (A:Option vx) (n c x:Nat) (l:List Nat) (w:vv) (hp:jc p=true) (hl:RWd w [ve A n c] l) :
  vA prog 194 #[fv p,ve A n c,vd vq x] w fun e w'=>e=vn (vd vq ((Kl p x l:Nat):Int)) /\ vz w.1.size w w':=by
 obtain ⟨rfl,h1,h2,ta,Ka⟩:=Mb hl;have gm:=Mh h1 h2;have HM:=zH (fun a b w=>YD p a b w hp)
 have HA:=zH (fun a b w=>Su p a b w hp)
 have HD:=zH (I1 p x l);obtain ⟨f,hf⟩:=zEX (fun k=>Kl p x (l.drop k))
 have Im:=zH (show f 0=Kl p x l by rw [hf];rfl)
 have HF9:=zH (show f l.length=0 by rw [hf];simp [Kl])
 have HF:=zH (fun k (hk:k<l.length)=>show f k=(f (k+1)*x%p+l.getD k 0)%p by rw [hf];exact HD.out k hk)
 rw [<- Im.out];clear HD hl h1 h2 hp ta hf Im;obtain ⟨m,hm⟩:∃ m:Int,m=(l.length:Int)-1:=⟨_,rfl⟩;have g0:(l.length:Int)-1=m:=hm.symm;have gw:vt.wrap m=m:=Sl _ zO zO;have HMM:=zH hm;clear hm;unfold fv at *;obtain ⟨kf,ba⟩:=zN w 250 #[vd vq p];go_enter func194,ntmps194
 go_upto_region 1 with fail
 generalize w.alloc _=w0 at kf ba |-;go_wp2_with fail
 clear g0 gw;go_loopw [7,8] (fun y i wr=>∃ (k:Nat) (j:Int),Hid (j+1=(k:Int)) /\ k <= l.length /\ i=vd vt j /\ y=vd vq (f k:Int) /\ Blk wr w.1.size 250 #[vd vq p] /\ vz w.1.size w wr) (fun _ i _=>(intOf i+1).toNat)
 case atStart=>exact ⟨l.length,m,zH (zQ HMM.out),zR,rfl,by rw [HF9.out];rfl,kf,ba⟩
 case round =>
  clear kf ba;obtain ⟨k,j,HJ,hk,rfl,rfl,kf,hb⟩:=hrel;rcases Nu k with h0 | h0
  ·subst h0
   have hj:j=-1:=by have:=HJ.out;omega
   subst hj;go_wp2;go_ret
   exact ⟨rfl,hb⟩
  ·obtain ⟨i,hi⟩:=zEX (k-1)
   have hj:j=(i:Int):=by have:=HJ.out;omega
   subst hj;have bA:i<l.length:=by omega
   obtain ⟨b,q,rfl,Zb,hc⟩:=Ve (Ka.below hb) bA;have Xe:=zH (HF.out i bA);rw [show i+1=k by omega] at Xe
   obtain ⟨y,hy⟩:=zEX (f k);rw [<- hy] at Xe |-;generalize l.getD i 0=a at *;obtain ⟨z,hz⟩:=zEX (y*x%p);have og:=zH (fun w=>by have:=HM.out y x w;rw [<- hz] at this;exact this)
   rw [<- hz] at Xe;have ie:=zH (fun w=>by have:=HA.out z a w;rw [<- Xe.out] at this;exact this)
   have HI:=zH hi;obtain ⟨y2,BA⟩:=zEX (f i);rw [<- BA] at ie;have HY2:=zH BA;have gi1:(0:Int)<=i:=by omega
   have gi2:(i:Int)<l.length:=by omega
   obtain ⟨j2,Zn⟩:∃ j2:Int,j2=(i:Int)-1:=⟨_,rfl⟩;have gj:(i:Int)-1=j2:=Zn.symm;have gw:vt.wrap j2=j2:=Sl _ zO zO;have HJ2:=zH Zn;clear hz hy hi Xe BA Zn;have cf:=kf.cell;have lf:=kf.lt;go_upto_region 5 with fail
   refine Oh (yc) (ya) [] [] [0,1,2,3,4,5,6,7,8,9,10] zK zK ?_;refine Ph (ya) ?_;intro Wc da;refine Hg ?_;refine Fe ya rfl rfl rfl rfl (fun w' hR=>og.out _) ?_
   refine zPU ?_;refine Hg ?_;refine Fe ya rfl rfl rfl rfl (fun w' hR=>ie.out _) ?_
   refine zPU ?_;refine Hg ?_;refine ox rfl ?_;intro wd mf;replace da:=zM ya da mf;clear mf;have Kd:=pa (Bb wr.1.size wr).drew da;replace kf:=ma kf Kd;replace hb:=pa hb Kd;clear Kd da cf lf;go_wp2
   go_roundw
   case rel=>exact ⟨i,j2,zH (zQ HJ2.out),zO,rfl,by rw [HY2.out],kf,hb⟩
   case measure=>have:=HJ2.out;simp [intOf];omega
theorem zAo (p s n:Nat) (w:vv) (hp:jc p=true) (hn:Mr p n) (hs:s%p≠0) :
  vA prog 255 #[fv p,vd vq s,vd vt n] w fun e w'=>∃ g,e=vn (.tuple #[ve (vD ⟨g,0,vB⟩) n n,vd vt 0]) /\ w.1.size <= g /\ Blk w' g 22 (Fb n (Ni p s n)) /\ vz w.1.size w w':=by
 have Hw:=hn.le;have HV:=zH (fun w=>Tu p w hp)
 have HR:=zH (fun w=>zAp p n w hp hn)
 have HD:=zH (fun w=>AQ p s w hp)
 have HM:=zH (fun a b w=>YD p a b w hp)
 obtain ⟨r,hr⟩:=zEX (Zj p n);obtain ⟨x0,Ds⟩:=zEX (s%p);obtain ⟨F,hF⟩:=zEX (Ni p s n);have Im:=zH (show F 0=x0 by rw [hF,Ds];rfl)
 have HF:=zH (show ∀ k,F (k+1)=F k*r%p from fun k=>by rw [hF,hr];rfl)
 rw [<- hr] at HR;rw [<- Ds] at HD hs;rw [<- hF];have d0:((x0:Int) == 0)=false:=by rw [Je];omega
 have mk:=zC n zO;have gn:(n:Int) <= 4096:=by omega
 have gn0:(0:Int)<=n:=by omega
 clear hr Ds hF hp hn hs;unfold fv at *;obtain ⟨kf,ba⟩:=zN w 250 #[vd vq p];go_enter func255,ntmps255
 go_wp2_with fail
 generalize w.alloc _=w1 at kf ba |-;refine (HV.out _).mono ?_;rintro e w2 ⟨rfl,ra⟩;replace kf:=ma kf ra;replace ba:=pa ba ra;clear ra;have cf:=kf.cell;go_wp2_with fail
 refine (HR.out _).mono ?_;rintro e w3 ⟨rfl,ra⟩;replace kf:=ma kf ra;replace ba:=pa ba ra;clear ra cf;have cf:=kf.cell;go_wp2_with fail
 refine (HD.out _).mono ?_;rintro e w4 ⟨rfl,ra⟩;replace kf:=ma kf ra;replace ba:=pa ba ra;clear ra cf;have cf:=kf.cell;go_wp2_with fail
 have kg:=Blk.new w4 22 (Fb n fun _=>0)
 have ja:=zA w4 (.cells (Fb n fun _=>0) 22)
 have Ck:w.1.size<w4.1.size:=kf.lt;replace kf:=ma kf ja;replace ba:=pa ba ja;clear ja mk cf;generalize w4.alloc _=w5 at kf kg ba |-;generalize w4.1.size=g at kg Ck |-;have H0:=zH (mL n F fun _=>0)
 go_loopw [1,34] (fun y i wr=>∃ k:Nat,k <= n /\ i=vd vt k /\ y=vd vq (F k:Int) /\ Blk wr w.1.size 250 #[vd vq p] /\ Blk wr g 22 (Fb n (Nh F (fun _=>0) k)) /\ vz w.1.size w wr) (fun _ i _=>n-(intOf i).toNat)
 case atStart=>exact ⟨0,Rb _,rfl,by rw [Im.out],kf,by rw [H0.out];exact kg,ba⟩
 case round =>
  clear kf kg ba;obtain ⟨k,hk,rfl,rfl,kf,kg,ba⟩:=hrel;by_cases ta:k<n
  ·have q1:(k:Int)<n:=by omega
   have q2:(0:Int)<=k:=by omega
   obtain ⟨z,hz⟩:=zEX (F k);obtain ⟨z2,Gg⟩:=zEX (F (k+1));have zi:=zH (iI (n:=n) (G:=fun _=>0) hz)
   have Xe:=zH (HF.out k);rw [<- hz,<- Gg] at Xe;have og:=zH (fun w=>by have:=HM.out z r w;rw [<- Xe.out] at this;exact this)
   have HZ2:=zH Gg;rw [<- hz];clear hz Gg Xe;have cg:=kg.cell k;rw [UF _ _ ta] at cg;have fg:=kg.frozen;have lg:=kg.lt;have cf:=kf.cell;have lf:=kf.lt;have nfg:w.1.size≠g:=by omega
   go_upto_region 12 with fail
   have hg:=dk (w:=wr) g k (vd vq z);replace kg:=kg.set_ k (vd vq z);rw [zi.out] at kg;replace kf:=wg kf hg;replace ba:=Qe ba hg;clear hg cg fg lg cf lf;generalize wr.setCell _ _=w6 at kf kg ba |-;have cf:=kf.cell;go_wp2_with fail
   refine (og.out _).mono ?_;rintro e w7 ⟨rfl,ra⟩;replace kf:=ma kf ra;replace kg:=ma kg ra;replace ba:=pa ba ra;clear ra cf;go_wp2_with fail
   go_roundw
   case rel=>exact ⟨k+1,zO,by go_num,by rw [HZ2.out],kf,kg,ba⟩
   case measure=>simp [intOf];omega
  ·obtain rfl:k=n:=by omega
   have q1:¬((k:Int)<k):=by omega
   rw [xP] at kg;go_wp2
   go_ret2
   exact ⟨g,rfl,zO,kg,ba⟩
theorem B7 (L:Xa) (w:vv) (hL:ed L) :
  vA prog 193 #[vf (Eb L)] w fun e w'=>∃ g1 g2,e=vn (.tuple #[ve (vD ⟨g1,0,vB⟩) L.block L.block,ve (vD ⟨g2,0,vB⟩) L.n L.n]) /\ Blk w' g1 22 (Fb L.block (Ni L.p 1 L.block)) /\ Blk w' g2 22 (Fb L.n (Ni L.p (Vc L.p).1 L.n)) /\ w.1.size <= g1 /\ w.1.size <= g2 /\ vz w.1.size w w':=by
 obtain ⟨Lc,Nb⟩:=tc hL.p;have H1:=zH (fun w=>zAo L.p 1 L.block w hL.p (RH hL).1 (by rw [Om zO];decide))
 have H2:=zH (fun w=>zAo L.p (Vc L.p).1 L.n w hL.p (L4 hL).1 (N0 hL.p))
 have HG:=zH (fun w=>PZ L.p w hL.p)
 generalize (Vc L.p).1=gn at *;clear hL Lc Nb;unfold Eb fv at *;obtain ⟨kl,kf,ba,db⟩:=ig w 121 250 #[vd vq L.p,vd vt L.block,vd vt L.queries,vd vt L.k,vd vt L.n,vd vt L.secret,vd vt L.rows,vd vt L.a,vd vt L.b,vd vt L.b,vd vt L.b] #[vd vq L.p];go_enter func193,ntmps193
 go_upto_region 2 with fail
 generalize (w.alloc _).alloc _=w1 at kl kf ba db |-;have Nc:w.1.size+2 <= w1.1.size:=by omega
 clear db;have cl:=kl.cell;have cf:=kf.cell;have ll:=kl.lt;have lf:=kf.lt;go_wp2_with fail
 refine (H1.out _).mono ?_;rintro e w2 ⟨g1,rfl,Ck,k1,ra⟩;replace kl:=ma kl ra;replace kf:=ma kf ra;replace ba:=pa ba ra;have Pg:=Cb Nc ra.size;clear ra cl cf ll lf;have cl:=kl.cell;have cf:=kf.cell;have ll:=kl.lt;have lf:=kf.lt;go_upto_region 3 with fail
 refine Yc (yc) [2,5] [0,1,3,4,2,5,6,7,8,9,10] zK zK ?_;refine Td (ya) ?_;intro Wc Ca da;have Ma:=Lf Ca;replace k1:=ma k1 Ma;replace ba:=pa ba Ma;have ur:=Cb Pg Ma.size;refine dc ?_;refine pd ya rfl rfl rfl ((HG.out _).mono ?_);rintro e w3 ⟨rfl,Ta⟩;refine ⟨_,rfl,Ta,?_⟩;replace da:=zM ya da (Ta);refine zPU ?_;replace k1:=ma k1 Ta;replace ba:=pa ba Ta;have hs4:=Cb ur Ta.size;refine dc ?_;refine pd ya rfl rfl rfl ((H2.out _).mono ?_);rintro e w4 ⟨g2,rfl,Xz,k2,Ub⟩;refine ⟨_,rfl,Ub,?_⟩;replace da:=zM ya da (Ub);refine zPU ?_;replace k1:=ma k1 Ub;replace ba:=pa ba Ub;refine dc ?_;refine Ec ?_;go_wp2
 go_ret2
 exact ⟨g1,g2,rfl,k1,k2,zO,zO,ba⟩
theorem zEU {w w':vv} {base:Nat} {e:vy} {size:Nat} {v:vw} {n:Nat} {xs:List vw} {u:Option Nat} (h:w.ownsRow base e size v n xs) (hg:w.grownBy w' u) (Ua:∀ q,v.ownBlock=vD q -> u=vD q -> False):w'.ownsRow base e size v n xs:=by
 have ta:=h.lt;obtain ⟨h1,h2⟩:=h;refine ⟨h1,?_⟩;rcases h2 with h2 | ⟨g,cap,cur,hv,Vo,hh,r⟩
 ·exact Or.inl h2
 ·exact Or.inr ⟨g,cap,cur,hv,Vo,by rw [hg.block g (Ky.1 hh).1 (fun e=>Ua g (by rw [hv];rfl) e.symm)];exact hh,r⟩
theorem uY {w:vv} {base:Nat} {e:vy} {size:Nat} {x x' y:vw} {n:Nat} {ys:List vw} (hy:w.ownsRow base e size y n ys) (Yu:∀ q,x.ownBlock=vD q -> y.ownBlock=vD q -> False) (hb:x'.ownBlock=x.ownBlock \/ x'.ownBlock=vD w.1.size):∀ q,x'.ownBlock=vD q -> y.ownBlock=vD q -> False:=fun q h1 h2=>by
 rcases hb with e | e
 ·exact Yu q (e ▸ h1) h2
 ·have:=(hy.lt q h2).2
  rw [e] at h1;have:=Pb h1;omega
theorem zGh (L:Xa) (s:Nat) (w:vv) (hL:ed L) (hs:s<18446744073709551616) :
  vA prog 36 #[vf (Eb L),vd vq s] w fun e w'=>∃ v0 v1 v2 v3 v4 n cs,e=vn (vf #[v0,v1,v2,v3,v4]) /\ w'.ownsRow w.1.size 28 1 v0 n cs /\ qh w.1.size w' v0 cs (Cy L s (L.a+L.b+L.b+L.b)) /\ w'.ownsRow w.1.size 22 1 v1 L.k (Qa (wi L.p s [1] L.k)) /\ w'.ownsRow w.1.size 22 1 v2 (L.k+L.block-2) (Qa (wi L.p s [2] (L.k+L.block-2))) /\ w'.ownsRow w.1.size 22 1 v3 (L.block+2*L.queries-1) (Qa (wi L.p s [3] (L.block+2*L.queries-1))) /\ w'.ownsRow w.1.size 22 1 v4 L.n (Qa (wi Ob s [4] L.n)) /\ vz w.1.size w w':=by
 have Kh:=tc hL.p;have HT:=zH (fun w=>Z8 L.p L.block L.queries L.k L.n L.secret L.rows L.a L.b L.b L.b w hL.a hL.b hL.b hL.b)
 have HS:=zH (fun r m g w kg hr hlen hm=>S9 L.p s r m g w zO Kh.2 kg hr hlen hm)
 have HS4:=zH (fun r m g w kg hr hlen hm=>S9 Ob s r m g w zD zD kg hr hlen hm)
 have hT4:L.a+L.b+L.b+L.b <= 400000:=by have:=hL.a;have:=hL.b;omega
 have Ot:=hL.q2;generalize L.a+L.b+L.b+L.b=T at *;obtain ⟨x,hx⟩:=zEX (s%Ob);have e1:(s:Int)%18446744069414584321=(x:Int):=by rw [hx];unfold Ob;omega
 have e2:(s:Int).tmod 18446744069414584321=(x:Int):=by rw [Ex zO];exact e1
 rw [<- hx] at HS HS4;clear hx;unfold Eb at *;go_enter func36,ntmps36
 go_upto_region 3 with fail
 obtain ⟨kl,kz,kc,ba,db⟩:=Tp w 38 41 41 #[vd vq L.p,vd vt L.block,vd vt L.queries,vd vt L.k,vd vt L.n,vd vt L.secret,vd vt L.rows,vd vt L.a,vd vt L.b,vd vt L.b,vd vt L.b] #[ve vB 0 0,ve vB 0 0,ve vB 0 0,ve vB 0 0,ve vB 0 0] #[ve vB 0 0,ve vB 0 0,ve vB 0 0,ve vB 0 0,ve vB 0 0];generalize ((w.alloc _).alloc _).alloc _=w3 at kl kz kc ba db |-;obtain ⟨N,hN⟩:=zEX (w3.1.size);rw [<- hN] at db;have Ed:N <= w3.1.size:=by omega
 have ef:w.1.size+2<N:=by omega
 clear hN db;go_wp2_with fail
 go_loopw [7] (fun y wr=>∃ (i:Nat) (v:vw) (cs:List vw),i <= T /\ y=vd vt i /\ Blk wr w.1.size 38 #[vd vq L.p,vd vt L.block,vd vt L.queries,vd vt L.k,vd vt L.n,vd vt L.secret,vd vt L.rows,vd vt L.a,vd vt L.b,vd vt L.b,vd vt L.b] /\ Blk wr (w.1.size+1) 41 #[ve vB 0 0,ve vB 0 0,ve vB 0 0,ve vB 0 0,ve vB 0 0] /\ Blk wr (w.1.size+1+1) 41 #[v,ve vB 0 0,ve vB 0 0,ve vB 0 0,ve vB 0 0] /\ wr.ownsRow N 28 1 v i cs /\ qh N wr v cs (Cy L s i) /\ vz w.1.size w wr /\ N <= wr.1.size) (fun y _=>T-(intOf y).toNat)
 case atStart=>exact ⟨0,ve vB 0 0,[],Rb _,rfl,kl,kz,kc,⟨rfl, .inl ⟨rfl,rfl⟩⟩,wJ _ _ _,ba,Ed⟩
 case round =>
  clear kl kz kc ba Ed;obtain ⟨i,v,cs,hi,rfl,kl,kz,kc,oa,Ra,ba,Ed⟩:=hrel;have cl:=kl.cell;have ll:=kl.lt;by_cases ta:i<T
  ·have g1:(0:Int)<=i:=by omega
   have g2:(i:Int)<T:=by omega
   have ew:vq.wrap (i:Int)=i:=by rw [Vg];omega
   have HR:=zH (zG4 L s i);go_wp2_with fail
   refine (HT.out _).mono ?_;rintro e w4 ⟨rfl,Ub⟩;replace kl:=ma kl Ub;replace kz:=ma kz Ub;replace kc:=ma kc Ub;replace oa:=yb oa Ub zR;replace Ra:=Bg Ra Ub;have hN4:N <= w4.1.size:=by have:=Ub.size;omega
   replace ba:=pa ba Ub;clear cl ll Ub Ed;have cl:=kl.cell;have cc:=kc.cell;have x1:w.1.size<N:=by omega
   have x2:w.1.size+1+1<N:=by omega
   have x3:w.1.size≠N:=by omega
   have x4:w.1.size+1+1≠N:=by omega
   go_upto_region 6 with fail
   refine XC (Gp N N) [9,10,11,12,14] [14] [0,1,2,3,4,5,6,7,8,9,10,11,12,13,14] zK zK ?_;refine aD (Tb N N) ?_;intro Wc Ca da;have Ma:=Lf Ca;replace kl:=ma kl Ma;replace kz:=ma kz Ma;replace kc:=ma kc Ma;replace oa:=yb oa Ma zR;replace Ra:=Bg Ra Ma;have ld:N <= Wc.1.size:=by have:=Ma.size;omega
   replace ba:=pa ba Ma;clear Ca Ma;refine Tl ?_;refine Jk (Tb N N) rfl rfl rfl ?_;go_simp;refine ⟨fun _=>Mf ((Bb _ _).alloc zR _) ld,?_⟩
   obtain ⟨kA,ja⟩:=zN Wc 22 #[vd vq x,vd vq 0,vd vq i];replace kl:=ma kl ja;replace kz:=ma kz ja;replace kc:=ma kc ja;replace oa:=yb oa ja zR;replace Ra:=Bg Ra ja;have Et:N <= (Wc.alloc (.cells #[vd vq x,vd vq 0,vd vq i] 22)).1.size:=by have:=ja.size;omega
   replace ba:=pa ba ja
   refine zPU ?_
   generalize Wc.alloc _=w6 at kl kz kc oa Ra ba kA Et |-;generalize Wc.1.size=gA at kA |-;clear ja ld da cl cc;have da:=(Tb N N).refl w6;have kA':Blk w6 gA 22 (Qa (x :: [0,i])).toArray:=by simpa [Qa] using kA
   have HC:=zH (HS.out [0,i] L.queries gA w6 kA' (by intro y hy;simp at hy;omega) zS zO)
   clear kA kA';refine Ej (Tb N N) rfl rfl rfl (fun _=>by go_simp <;> rfl) ((HC.out).mono ?_)
   rintro e w7 ⟨va,rfl,Ut,Vb⟩;refine ⟨_,rfl,fun _=>Mf Vb Et,?_⟩
   replace da:=zM (Tb N N) da (Mf Vb Et);refine zPU ?_;obtain ⟨Av,cv,rfl,-⟩:=mc Ut;have yA:=Ut;replace kl:=ma kl Vb;replace kz:=ma kz Vb;replace kc:=ma kc Vb;have fq:∀ q,v.ownBlock=vD q -> q<w6.1.size:=fun q e=>(oa.lt q e).2
   replace oa:=yb oa Vb zR;replace Ra:=Bg Ra Vb;have hx7:=OC (N:=N) (gb:=v.ownBlock) yA (zH3 _ _ _ _ zO Kh.2) Et fq;have Df:N <= w7.1.size:=by have:=Vb.size;omega
   replace ba:=pa ba Vb;clear Ut yA fq Vb Et da HC;have da:=(Tb N N).refl w7;refine Jk (Tb N N) rfl rfl rfl ?_;go_simp;refine ⟨fun _=>Mf ((Bb _ _).alloc zR _) Df,?_⟩
   have ja:=zA w7 (.cells #[ve Av L.queries cv] 28);have Ka:=mh w7 (ve Av L.queries cv) 28;replace kl:=ma kl ja;replace kz:=ma kz ja;replace kc:=ma kc ja;replace oa:=yb oa ja zR;replace Ra:=Bg Ra ja;replace hx7:=nu hx7 ja.size (fun b _ h2 _=>ja.block b h2)
   have Dl:N <= (w7.alloc (.cells #[ve Av L.queries cv] 28)).1.size:=by have:=ja.size;omega
   replace ba:=pa ba ja
   refine zPU ?_
   generalize w7.alloc _=w8 at kl kz kc oa Ra hx7 ba Ka Dl |-;generalize w7.1.size=g7 at Ka |-;clear ja Df da;have da:=(Tb N N).refl w8;have cc:=kc.cell;refine Tl ?_;refine Jk (Tb N N) rfl rfl rfl ?_;refine Iv _ _ rfl jw rfl oa rfl Ka (by intro u hu;simp at hu;subst hu;rfl) zO Dl ?_
   intro v' wn Va Ja tb;have Jc:∀ q,v.ownBlock=vD q -> N <= q:=fun q e=>(oa.lt q e).1
   refine ⟨fun _=>Xx Ja Dl Jc,?_⟩
   have Xh:=eE Ra hx7 Ja tb;rw [HR.out] at Xh;replace kl:=kl.grown Ja (fun e=>by first | (have:=Jc _ e;omega) | (have:=Jc _ e.symm;omega))
   replace kz:=kz.grown Ja (fun e=>by first | (have:=Jc _ e;omega) | (have:=Jc _ e.symm;omega))
   replace kc:=kc.grown Ja (fun e=>by first | (have:=Jc _ e;omega) | (have:=Jc _ e.symm;omega))
   replace ba:=ba.trans ((Ee oa Ja Dl).mono zO);have Di:N <= wn.1.size:=by have:=Ja.size;omega
   obtain ⟨Aw,cw,rfl,-⟩:=mc Va;clear oa Ra hx7 Ja tb Jc Dl Ka cc da;have da:=(Tb N N).refl wn;have cc:=kc.cell;have fc:=kc.frozen
   refine zPU ?_
   refine Tl ?_;refine Jk (Tb N N) rfl rfl rfl ?_;go_simp;refine ⟨fun h=>Bool.noConfusion h,?_⟩
   have Wb:wn.grownBy (wn.setCell ⟨w.1.size+1+1,0,vB⟩ (ve Aw (i+1) cw)) (vD (w.1.size+1+1)):=tj (p:=⟨w.1.size+1+1,0,vB⟩) (Mg wn _) (.inl rfl) _;replace kc:=kc.set_ 0 (ve Aw (i+1) cw);simp at kc
   replace kl:=kl.grown Wb (fun e=>by have:=Pb e;omega)
   replace kz:=kz.grown Wb (fun e=>by have:=Pb e;omega)
   have De:=Zi Va Wb zO;replace Xh:=eM Xh Wb zO;replace ba:=Qe ba Wb;have hNz:=Cb Di Wb.size;clear Va Wb cc fc Di da;generalize wn.setCell _ _=wz at kl kz kc De Xh ba hNz |-;have da:=(Tb N N).refl wz;refine Tl ?_;refine YC ?_;go_wp2
   go_roundw
   case rel=>exact ⟨i+1,ve Aw (i+1) cw,_,zO,by go_num,kl,kz,kc,De,Xh,ba,hNz⟩
   case measure=>simp [intOf];omega
  ·obtain rfl:i=T:=by omega
   clear ll;have ll:=kl.lt;have g2:¬((i:Int)<i):=by omega
   go_wp2_with fail
   refine (HT.out _).mono ?_;rintro e w4 ⟨rfl,Ub⟩;replace kl:=ma kl Ub;replace kz:=ma kz Ub;replace kc:=ma kc Ub;replace oa:=yb oa Ub zR;replace Ra:=Bg Ra Ub;replace ba:=pa ba Ub;replace Ed:=Cb Ed Ub.size;clear cl ll Ub;have q1:=hL.b1;have q2:=hL.b2;have q3:=hL.q1;have q5:=hL.k;have q6:=hL.n2;have w1:vt.wrap ((L.k:Int)+L.block)=(L.k:Int)+L.block:=Sl _ zO zO;obtain ⟨m2,ue⟩:=zEX (L.k+L.block-2);obtain ⟨m3,eo⟩:=zEX (L.block+2*L.queries-1);have w2:vt.wrap ((L.k:Int)+L.block-2)=(m2:Int):=by rw [Sl _ zO zO];omega
   have w5:vt.wrap (2*(L.queries:Int))=2*(L.queries:Int):=Sl _ zO zO;have w6:vt.wrap ((L.block:Int)+2*(L.queries:Int))=(L.block:Int)+2*(L.queries:Int):=Sl _ zO zO;have w7:vt.wrap ((L.block:Int)+2*(L.queries:Int)-1)=(m3:Int):=by rw [Sl _ zO zO];omega
   have u1:L.k <= 65536:=by omega
   have u2:m2 <= 65536:=by omega
   have u3:m3 <= 65536:=by omega
   have u4:L.n <= 65536:=by omega
   have Zy:=zH ue;have HM3:=zH eo;clear ue eo q1 q2 q3 q5 q6 ta hi;have cl:=kl.cell;go_wp2_with fail
   obtain ⟨kA,ja⟩:=zN w4 22 #[vd vq x,vd vq 1];replace kl:=ma kl ja;replace kz:=ma kz ja;replace kc:=ma kc ja;replace Ra:=Bg Ra ja;replace oa:=yb oa ja zR;replace ba:=pa ba ja;replace Ed:=Cb Ed ja.size;clear cl ja;generalize w4.alloc _=a1 at kl kz kc Ra oa  ba Ed kA |-;generalize w4.1.size=gA1 at kA |-;have HC:=zH (HS.out [1] L.k gA1 a1 (by simpa [Qa] using kA) (by intro y hy;simp at hy;omega) zS u1)
   clear kA
   skip
   refine HC.out.mono ?_;rintro e b1 ⟨v1,rfl,hv,hb⟩;have o1:=Bh hv Ed;replace kl:=ma kl hb;replace kz:=ma kz hb;replace kc:=ma kc hb;replace Ra:=Bg Ra hb;replace oa:=yb oa hb zR;replace ba:=pa ba hb;replace Ed:=Cb Ed hb.size;clear hv hb HC;obtain ⟨A1,c1,rfl,-⟩:=mc o1;have cc:=kc.cell;have fc:=kc.frozen;go_upto_region 8 with fail
   have Wb:b1.grownBy (b1.setCell ⟨w.1.size+1+1,1,vB⟩ (ve A1 L.k c1)) (vD (w.1.size+1+1)):=tj (p:=⟨w.1.size+1+1,1,vB⟩) (Mg b1 _) (.inl rfl) _;replace kc:=kc.set_ 1 (ve A1 L.k c1);simp at kc
   replace kl:=kl.grown Wb (fun e=>by have:=Pb e;omega)
   replace kz:=kz.grown Wb (fun e=>by have:=Pb e;omega)
   replace Ra:=eM Ra Wb zO;replace oa:=Zi oa Wb zO;replace o1:=Zi o1 Wb zO;replace ba:=Qe ba Wb;replace Ed:=Cb Ed Wb.size;clear Wb cc fc;generalize b1.setCell _ _=d1 at kl kz kc Ra oa o1 ba Ed |-;have cl:=kl.cell;go_wp2_with fail
   obtain ⟨kA,ja⟩:=zN d1 22 #[vd vq x,vd vq 2];replace kl:=ma kl ja;replace kz:=ma kz ja;replace kc:=ma kc ja;replace Ra:=Bg Ra ja;replace oa:=yb oa ja zR;replace o1:=yb o1 ja zR;replace ba:=pa ba ja;replace Ed:=Cb Ed ja.size;clear cl ja;generalize d1.alloc _=a2 at kl kz kc Ra oa o1 ba Ed kA |-;generalize d1.1.size=gA2 at kA |-;have HC:=zH (HS.out [2] m2 gA2 a2 (by simpa [Qa] using kA) (by intro y hy;simp at hy;omega) zS u2)
   clear kA
   skip
   refine HC.out.mono ?_;rintro e b2 ⟨v2,rfl,hv,hb⟩;have o2:=Bh hv Ed;replace kl:=ma kl hb;replace kz:=ma kz hb;replace kc:=ma kc hb;replace Ra:=Bg Ra hb;replace oa:=yb oa hb zR;replace o1:=yb o1 hb zR;replace ba:=pa ba hb;replace Ed:=Cb Ed hb.size;clear hv hb HC;obtain ⟨A2,c2,rfl,-⟩:=mc o2;have cc:=kc.cell;have fc:=kc.frozen;go_upto_region 9 with fail
   have Wb:b2.grownBy (b2.setCell ⟨w.1.size+1+1,2,vB⟩ (ve A2 m2 c2)) (vD (w.1.size+1+1)):=tj (p:=⟨w.1.size+1+1,2,vB⟩) (Mg b2 _) (.inl rfl) _;replace kc:=kc.set_ 2 (ve A2 m2 c2);simp at kc
   replace kl:=kl.grown Wb (fun e=>by have:=Pb e;omega)
   replace kz:=kz.grown Wb (fun e=>by have:=Pb e;omega)
   replace Ra:=eM Ra Wb zO;replace oa:=Zi oa Wb zO;replace o1:=Zi o1 Wb zO;replace o2:=Zi o2 Wb zO;replace ba:=Qe ba Wb;replace Ed:=Cb Ed Wb.size;clear Wb cc fc;generalize b2.setCell _ _=d2 at kl kz kc Ra oa o1 o2 ba Ed |-;have cl:=kl.cell;go_wp2_with fail
   obtain ⟨kA,ja⟩:=zN d2 22 #[vd vq x,vd vq 3];replace kl:=ma kl ja;replace kz:=ma kz ja;replace kc:=ma kc ja;replace Ra:=Bg Ra ja;replace oa:=yb oa ja zR;replace o1:=yb o1 ja zR;replace o2:=yb o2 ja zR;replace ba:=pa ba ja;replace Ed:=Cb Ed ja.size;clear cl ja;generalize d2.alloc _=a3 at kl kz kc Ra oa o1 o2 ba Ed kA |-;generalize d2.1.size=gA3 at kA |-;have HC:=zH (HS.out [3] m3 gA3 a3 (by simpa [Qa] using kA) (by intro y hy;simp at hy;omega) zS u3)
   clear kA
   skip
   refine HC.out.mono ?_;rintro e b3 ⟨v3,rfl,hv,hb⟩;have o3:=Bh hv Ed;replace kl:=ma kl hb;replace kz:=ma kz hb;replace kc:=ma kc hb;replace Ra:=Bg Ra hb;replace oa:=yb oa hb zR;replace o1:=yb o1 hb zR;replace o2:=yb o2 hb zR;replace ba:=pa ba hb;replace Ed:=Cb Ed hb.size;clear hv hb HC;obtain ⟨A3,c3,rfl,-⟩:=mc o3;have cc:=kc.cell;have fc:=kc.frozen;go_upto_region 10 with fail
   have Wb:b3.grownBy (b3.setCell ⟨w.1.size+1+1,3,vB⟩ (ve A3 m3 c3)) (vD (w.1.size+1+1)):=tj (p:=⟨w.1.size+1+1,3,vB⟩) (Mg b3 _) (.inl rfl) _;replace kc:=kc.set_ 3 (ve A3 m3 c3);simp at kc
   replace kl:=kl.grown Wb (fun e=>by have:=Pb e;omega)
   replace kz:=kz.grown Wb (fun e=>by have:=Pb e;omega)
   replace Ra:=eM Ra Wb zO;replace oa:=Zi oa Wb zO;replace o1:=Zi o1 Wb zO;replace o2:=Zi o2 Wb zO;replace o3:=Zi o3 Wb zO;replace ba:=Qe ba Wb;replace Ed:=Cb Ed Wb.size;clear Wb cc fc;generalize b3.setCell _ _=d3 at kl kz kc Ra oa o1 o2 o3 ba Ed |-;have cl:=kl.cell;go_wp2_with fail
   obtain ⟨kA,ja⟩:=zN d3 22 #[vd vq x,vd vq 4];replace kl:=ma kl ja;replace kz:=ma kz ja;replace kc:=ma kc ja;replace Ra:=Bg Ra ja;replace oa:=yb oa ja zR;replace o1:=yb o1 ja zR;replace o2:=yb o2 ja zR;replace o3:=yb o3 ja zR;replace ba:=pa ba ja;replace Ed:=Cb Ed ja.size;clear cl ja;generalize d3.alloc _=a4 at kl kz kc Ra oa o1 o2 o3 ba Ed kA |-;generalize d3.1.size=gA4 at kA |-;have HC:=zH (HS4.out [4] L.n gA4 a4 (by simpa [Qa] using kA) (by intro y hy;simp at hy;omega) zS u4)
   clear kA;unfold Ob at HC;refine HC.out.mono ?_;rintro e b4 ⟨v4,rfl,hv,hb⟩;have o4:=Bh hv Ed;replace kl:=ma kl hb;replace kz:=ma kz hb;replace kc:=ma kc hb;replace Ra:=Bg Ra hb;replace oa:=yb oa hb zR;replace o1:=yb o1 hb zR;replace o2:=yb o2 hb zR;replace o3:=yb o3 hb zR;replace ba:=pa ba hb;replace Ed:=Cb Ed hb.size;clear hv hb HC;obtain ⟨A4,c4,rfl,-⟩:=mc o4;have cc:=kc.cell;have fc:=kc.frozen;go_upto_region 11 with fail
   have Wb:b4.grownBy (b4.setCell ⟨w.1.size+1+1,4,vB⟩ (ve A4 L.n c4)) (vD (w.1.size+1+1)):=tj (p:=⟨w.1.size+1+1,4,vB⟩) (Mg b4 _) (.inl rfl) _;replace kc:=kc.set_ 4 (ve A4 L.n c4);simp at kc
   replace kl:=kl.grown Wb (fun e=>by have:=Pb e;omega)
   replace kz:=kz.grown Wb (fun e=>by have:=Pb e;omega)
   replace Ra:=eM Ra Wb zO;replace oa:=Zi oa Wb zO;replace o1:=Zi o1 Wb zO;replace o2:=Zi o2 Wb zO;replace o3:=Zi o3 Wb zO;replace o4:=Zi o4 Wb zO;replace ba:=Qe ba Wb;replace Ed:=Cb Ed Wb.size;clear Wb cc fc;generalize b4.setCell _ _=d4 at kl kz kc Ra oa o1 o2 o3 o4 ba Ed |-;obtain ⟨Av,cv,rfl,-⟩:=mc oa;have cc:=kc.cell;have fc:=kc.frozen;have zc:=kz.cell;have zf:=kz.frozen;go_wp2_with fail
   have Wb:=zHs (w:=d4) (g:=w.1.size+1) (ve Av i cv) (ve A1 L.k c1) (ve A2 m2 c2) (ve A3 m3 c3) (ve A4 L.n c4);replace kz:=zHr kz (ve Av i cv) (ve A1 L.k c1) (ve A2 m2 c2) (ve A3 m3 c3) (ve A4 L.n c4);replace Ra:=eM Ra Wb zO;replace oa:=Zi oa Wb zO;replace o1:=Zi o1 Wb zO;replace o2:=Zi o2 Wb zO;replace o3:=Zi o3 Wb zO;replace o4:=Zi o4 Wb zO;replace ba:=Qe ba Wb;clear kl kc cc fc zc zf Wb Ed;generalize ((((d4.setCell _ _).setCell _ _).setCell _ _).setCell _ _).setCell _ _=d5 at kz Ra oa o1 o2 o3 o4 ba |-;have zc:=kz.cell;refine Tc (v:=vf #[ve Av i cv,ve A1 L.k c1,ve A2 m2 c2,ve A3 m3 c3,ve A4 L.n c4]) (by simp [results,results36,go_sem,zc]) rfl ?_
   obtain rfl:=Zy.out;obtain rfl:=HM3.out;have Zo:0<L.p:=by omega
   exact ⟨_,_,_,_,_,_,_,rfl,Bh oa zO,IU Ra zO,Bh o1 zO,Bh o2 zO,Bh o3 zO,Bh o4 zO,ba⟩
def mu (L:Xa) (m r:List (List Nat)) (k:Nat):List Nat:=Xw L (m.getD k []) (r.getD k [])
def TO (L:Xa) (m r:List (List Nat)) (co li qu:List Nat):List (List Nat):=(List.range m.length).map (mu L m r)++[co,au L li,qn L qu]
theorem zFL (L:Xa) (m r:List (List Nat)) (co li qu:List Nat):(TO L m r co li qu).length=m.length+3:=by simp [TO]
def LG (L:Xa) (ps:List (List Nat)) (j i:Nat):Nat:=Re L.p (ps.getD i []) (Ni L.p (Vc L.p).1 L.n j)
def qQ (L:Xa) (ps:List (List Nat)):List (List Nat):=(List.range L.n).map fun j=>(List.range ps.length).map (LG L ps j)
theorem rS (f:Nat -> List Nat) (k:Nat):(List.range k).map f++[f k]=(List.range (k+1)).map f:=by simp [OB]
theorem zDc {M N:Nat} {w:vv} {v:vw} {cs:List vw} {l:List (List Nat)} (h:qh N w v cs l) (hN:M <= N):qh M w v cs l :=
 ⟨h.1,fun i h1 h2 u hu=>h.2 i h1 h2 u fun b b1 b2 b3=>hu b zO b2 b3⟩
theorem zGa (L:Xa) (D0 D1 D2 D3 D4 AM:Option vx) (n0 n1 n2 n3 n4 nM k0 k1 k2 k3 k4 cM:Nat) (m r:List (List Nat)) (co li qu:List Nat) (w:vv) (hL:ed L)
  (hm:Ye w [ve AM nM cM] m) (hr:Ye w [ve D0 n0 k0] r) (hc:RWd w [ve D1 n1 k1] co) (hl:RWd w [ve D2 n2 k2] li) (hq:RWd w [ve D3 n3 k3] qu)
  (hlen:m.length=r.length) (zj:∀ x∈m,x.length=L.block) (af:∀ x∈r,x.length <= 2000) (hT:m.length <= 400000) (h2:li.length <= 2000) (h3:qu.length <= 2000) :
  vA prog 40 #[vf (Eb L),ve AM nM cM,vf #[ve D0 n0 k0,ve D1 n1 k1,ve D2 n2 k2,ve D3 n3 k3,ve D4 n4 k4]] w fun e w'=>∃ n v cs,e=vn v /\ w'.ownsRow w.1.size 28 1 v n cs /\ qh w.1.size w' v cs (qQ L (TO L m r co li qu)) /\ vz w.1.size w w':=by
 have Kh:=tc hL.p;have Tf:=hL.n2;obtain ⟨qH,-,-,hMd⟩:=Ki hm;obtain ⟨TE,-,-,mf⟩:=Ki hr;subst qH;subst TE;have sl:=fun A n c=>(⟨A,n,c,rfl⟩:slc (ve A n c))
 have e1:=(Mb hc).1;have e2:=(Mb hl).1;have e3:=(Mb hq).1;subst e1 e2 e3;have HEv:=zH (fun A n c x l w hl=>zGe L.p A n c x l w hL.p hl)
 have OP:=zH (fun A B n c m d msg zh w hl hk hn hm=>V8 L A B n c m d msg zh w hL hl hk hn hm)
 have HCo:=zH (fun w=>D8 L (ve D0 r.length k0) (ve D1 co.length k1) (ve D2 li.length k2) (ve D3 qu.length k3) (ve D4 n4 k4) w (sl _ _ _) (sl _ _ _) (sl _ _ _) (sl _ _ _) (sl _ _ _))
 have nG:=zH (fun w' (hb:vz w.1.size w w')=>N8 L (ve D0 r.length k0) (ve D1 co.length k1) (ve D3 qu.length k3) (ve D4 n4 k4) D2 li.length k2 li w' hL (sl _ _ _) (sl _ _ _) (sl _ _ _) (sl _ _ _) (Sa hb hl) zO)
 have HQu:=zH (fun w' (hb:vz w.1.size w w')=>zGA L (ve D0 r.length k0) (ve D1 co.length k1) (ve D2 li.length k2) (ve D4 n4 k4) D3 qu.length k3 qu w' hL (sl _ _ _) (sl _ _ _) (sl _ _ _) (sl _ _ _) (Sa hb hq) zO)
 have rG:=zH (fun w=>zGv L w hL)
 have Pc:=zH (show ∀ x∈au L li,x<18446744073709551616 from fun x hx=>by
  rcases Ij.1 hx with h | h
  ·rw [h];exact gg (cW zO _ _) Kh.2
  ·exact U9 hl x h)
 have HQT:=zH (show ∀ x∈qn L qu,x<18446744073709551616 from YR zO fun x hx=>gg (zEk zO hx) Kh.2)
 have JI:=zH (show ∀ a b,∀ x∈Xw L a b,x<18446744073709551616 from fun a b=>YR zO fun x hx=>gg (IS zO hx) Kh.2)
 have HCE:=zH (show ∀ ps j i,LG L ps j i<18446744073709551616 from fun ps j i=>gg (ZN zO _ _) Kh.2)
 have Jg:=zH hlen;have rB:=zH zj;have Sh:=zH af;obtain ⟨ps,Uj⟩:=zEX (TO L m r co li qu);have Xl:=zH (show (List.range m.length).map (mu L m r)++[co,au L li,qn L qu]=ps from Uj.symm)
 have Jm:=zH (show ps.length=m.length+3 by rw [Uj,zFL])
 rw [<- Uj];have Yl:=zH (rS (mu L m r));have HRG:=zH (show ∀ i (h1:i<m.length) (h2:i<r.length),Xw L m[i] r[i]=mu L m r i from fun i h1 h2=>by
  unfold mu;rw [Gc,Gc,Dc h1,Dc h2]
  rfl)
 obtain ⟨rf,nA⟩:=zEX (mu L m r);rw [<- nA] at Xl Yl HRG;have Da:=hL.b2;clear hL hlen zj af Kh Uj nA hm hr;unfold Eb at *;obtain ⟨kl,kc,ba,db⟩:=ig w 38 41 #[vd vq L.p,vd vt L.block,vd vt L.queries,vd vt L.k,vd vt L.n,vd vt L.secret,vd vt L.rows,vd vt L.a,vd vt L.b,vd vt L.b,vd vt L.b] #[ve D0 r.length k0,ve D1 co.length k1,ve D2 li.length k2,ve D3 qu.length k3,ve D4 n4 k4];go_enter func40,ntmps40
 go_upto_region 1 with fail
 generalize (w.alloc _).alloc _=w1 at kl kc ba db |-;obtain ⟨N,hN⟩:=zEX (w1.1.size);have x1:w.1.size<N:=by omega
 have x2:w.1.size+1<N:=by omega
 have x3:w.1.size≠N:=by omega
 have x4:w.1.size+1≠N:=by omega
 have oa:=ju w1 28 (base:=N) zO;have ja:=zA w1 (.cells #[] 28);have Ed:N <= (w1.alloc (.cells #[] 28)).1.size:=by have:=ja.size;omega
 replace kl:=ma kl ja;replace kc:=ma kc ja;replace ba:=pa ba ja;clear ja db;go_upto_region 2 with fail
 have yA:∃ v0,v0=ve (vD ⟨w1.1.size,0,vB⟩) 0 0:=⟨_,rfl⟩;clear hN;generalize w1.alloc _=w2 at kl kc ba oa Ed |-;go_wp2_with fail
 go_loopw [7,8] (fun u y wr=>∃ (i:Nat) (v:vw) (cs:List vw),v=u /\ i <= m.length /\ y=vd vt i /\ Blk wr w.1.size 38 #[vd vq L.p,vd vt L.block,vd vt L.queries,vd vt L.k,vd vt L.n,vd vt L.secret,vd vt L.rows,vd vt L.a,vd vt L.b,vd vt L.b,vd vt L.b] /\ Blk wr (w.1.size+1) 41 #[ve D0 r.length k0,ve D1 co.length k1,ve D2 li.length k2,ve D3 qu.length k3,ve D4 n4 k4] /\ wr.ownsRow N 28 1 v i cs /\ qh 0 wr v cs ((List.range i).map rf) /\ vz w.1.size w wr /\ N <= wr.1.size) (fun _ y _=>m.length-(intOf y).toNat)
 case atStart=>exact ⟨0,_,[],rfl,Rb _,rfl,kl,kc,oa,wJ _ _ _,ba,Ed⟩
 case round =>
  clear kl kc oa ba Ed yA;obtain ⟨i,v,cs,rfl,hi,rfl,kl,kc,oa,Ra,ba,Ed⟩:=hrel;by_cases ta:i<m.length
  ·have q1:(0:Int)<=i:=by omega
   have q2:(i:Int)<m.length:=by omega
   have CE:i<r.length:=by have:=Jg.out;omega
   have q3:(i:Int)<r.length:=by omega
   obtain ⟨bm,qm,Am,lm,cm,rfl,TU,iO,tO⟩:=yp hMd ta;have hcm:=(ba.cell (p:=⟨bm,qm+i,vB⟩) TU).trans iO;have oA:=Sa ba tO;obtain ⟨br,qr,Ar,lr,cr,rfl,UU,lO,uO⟩:=yp mf CE;have Qz:=(ba.cell (p:=⟨br,qr+i,vB⟩) UU).trans lO;have Ym:=Sa ba uO;have x5:bm<N:=by omega
   have x6:br<N:=by omega
   have x7:bm≠N:=by omega
   have x8:br≠N:=by omega
   have z1:=(Mb oA).1;have z2:=(Mb Ym).1;have z3:lm=L.block:=by have:=rB.out _ (pg ta);omega
   have z4:lr <= 2000:=by have:=Sh.out _ (pg CE);omega
   have HC:=zH (fun w' (hb:vz wr.1.size wr w')=>OP.out Am Ar lm cm lr cr m[i] r[i] w' (Sa hb oA) (Sa hb Ym) z3 zO)
   have HRI:=zH (HRG.out i ta CE);have nB:=zH (Yl.out i);have NI:=zH (JI.out m[i] r[i]);rw [HRI.out] at HC NI;have HRIx:=zH (rfl:rf i=rf i);clear z1 z2 z3 z4 tO uO iO lO oA Ym CE HRIx HRI;have cl:=kl.cell;have ll:=kl.lt;have cc:=kc.cell;have lc:=kc.lt;have lbm:bm<wr.1.size:=by omega
   have lbr:br<wr.1.size:=by omega
   obtain ⟨fi,Tk⟩:=zEX (rf i);rw [<- Tk] at HC NI nB;clear Tk;go_upto_region 5 with fail
   refine Yc (Gp N N) [11,12,13] [0,1,2,3,4,5,6,7,8,9,10,11,12,13,14] zK zK ?_;refine Td (Tb N N) ?_;intro Wc Ca da;have Ma:=Lf Ca;have ld:N <= Wc.1.size:=by have:=Ma.size;omega
   replace kl:=ma kl Ma;replace kc:=ma kc Ma;replace oa:=yb oa Ma zR;replace Ra:=Bg Ra Ma;replace ba:=pa ba Ma;refine yu ?_;refine pd (Tb N N) rfl rfl rfl ((HC.out _ Ma).mono ?_);rintro e w7 ⟨va,rfl,Ut,Vb⟩;refine ⟨_,rfl,Mf Vb ld,?_⟩;replace da:=zM (Tb N N) da (Mf Vb ld);refine zPU ?_;obtain ⟨Av,cv,rfl,-⟩:=mc Ut;have fq:∀ q,v.ownBlock=vD q -> q<Wc.1.size:=fun q e=>(oa.lt q e).2
   have Df:N <= w7.1.size:=by have:=Vb.size;omega
   have hx:=OC (N:=0) (gb:=v.ownBlock) Ut NI.out (Rb _) fq;replace kl:=ma kl Vb;replace kc:=ma kc Vb;replace oa:=yb oa Vb zR;replace Ra:=Bg Ra Vb;replace ba:=pa ba Vb;clear Ut fq Vb da HC Ma Ca ld cl ll cc lc;refine yu ?_;refine Bd (Tb N N) rfl rfl rfl ?_;go_simp;have ja:=zA w7 (.cells #[ve Av fi.length cv] 28);have Ka:=mh w7 (ve Av fi.length cv) 28;refine ⟨Mf ja Df,?_⟩;replace kl:=ma kl ja;replace kc:=ma kc ja;replace oa:=yb oa ja zR;replace Ra:=Bg Ra ja;replace ba:=pa ba ja;replace hx:=nu hx ja.size (fun b _ h2 _=>ja.block b h2)
   have Dl:=Cb Df ja.size
   refine zPU ?_
   generalize w7.alloc _=w8 at kl kc oa Ra hx ba Ka Dl |-;generalize w7.1.size=g7 at Ka |-;clear ja Df;have da:=(Tb N N).refl w8;refine yu ?_;refine Bd (Tb N N) rfl rfl rfl ?_;refine Iv _ _ rfl jw rfl oa rfl Ka (by intro u hu;simp at hu;subst hu;rfl) zO Dl ?_
   intro v' wn Va Ja tb;have Jc:∀ q,v.ownBlock=vD q -> N <= q:=fun q e=>(oa.lt q e).1
   refine ⟨Xx Ja Dl Jc,?_⟩;have Xh:=eE Ra hx Ja tb;rw [nB.out] at Xh;replace kl:=kl.grown Ja (fun e=>by first | (have:=Jc _ e;omega) | (have:=Jc _ e.symm;omega))
   replace kc:=kc.grown Ja (fun e=>by first | (have:=Jc _ e;omega) | (have:=Jc _ e.symm;omega))
   replace ba:=ba.trans ((Ee oa Ja Dl).mono zO);have Di:N <= wn.1.size:=by have:=Ja.size;omega
   clear oa Ra hx Ja tb Jc Dl Ka da;have da:=(Tb N N).refl wn
   refine zPU ?_
   refine yu ?_;refine Ec ?_;go_wp2
   go_roundw
   case rel=>exact ⟨i+1,v',_,rfl,zO,by go_num,kl,kc,Va,Xh,ba,Di⟩
   case measure=>simp [intOf];omega
  ·obtain rfl:i=m.length:=by omega
   have q2:¬((m.length:Int)<m.length):=by omega
   have cl:=kl.cell;have ll:=kl.lt;have cc:=kc.cell;have lc:=kc.lt;go_upto_region 6 with fail
   refine Yc (Gp N N) [3,6,9,10,11] [0,1,2,4,5,7,8,3,6,9,10,11,12] zK zK ?_;refine Td (Tb N N) ?_;intro Wc Ca da;have Ma:=Lf Ca;have ld:N <= Wc.1.size:=by have:=Ma.size;omega
   replace kl:=ma kl Ma;replace kc:=ma kc Ma;replace oa:=yb oa Ma zR;replace Ra:=Bg Ra Ma;replace ba:=pa ba Ma;refine yu ?_;refine pd (Tb N N) rfl rfl rfl ((HCo.out _).mono ?_);rintro e w5 ⟨rfl,Lb⟩;refine ⟨_,rfl,Mf Lb ld,?_⟩;replace da:=zM (Tb N N) da (Mf Lb ld);refine zPU ?_;have Rk:N <= w5.1.size:=by have:=Lb.size;omega
   replace kl:=ma kl Lb;replace kc:=ma kc Lb;replace oa:=yb oa Lb zR;replace Ra:=Bg Ra Lb;replace ba:=pa ba Lb;clear Lb;refine yu ?_;refine pd (Tb N N) rfl rfl rfl ((nG.out _ ba).mono ?_);rintro e w6 ⟨v6,rfl,o6,Mc⟩;refine ⟨_,rfl,Mf Mc Rk,?_⟩;replace da:=zM (Tb N N) da (Mf Mc Rk);refine zPU ?_;have Et:N <= w6.1.size:=by have:=Mc.size;omega
   obtain ⟨A6,c6,rfl,-⟩:=mc o6;have dh:=OC (N:=0) (gb:=v.ownBlock) o6 Pc.out (Rb _) (fun q e=>(oa.lt q e).2)
   replace kl:=ma kl Mc;replace kc:=ma kc Mc;replace oa:=yb oa Mc zR;replace Ra:=Bg Ra Mc;replace ba:=pa ba Mc;clear Mc o6;refine yu ?_;refine pd (Tb N N) rfl rfl rfl ((HQu.out _ ba).mono ?_);rintro e w7 ⟨v7,rfl,o7,Vb⟩;refine ⟨_,rfl,Mf Vb Et,?_⟩;replace da:=zM (Tb N N) da (Mf Vb Et);refine zPU ?_;have Df:N <= w7.1.size:=by have:=Vb.size;omega
   obtain ⟨A7,c7,rfl,-⟩:=mc o7;have Es:=OC (N:=0) (gb:=v.ownBlock) o7 HQT.out (Rb _) (fun q e=>(oa.lt q e).2)
   replace dh:=nu dh Vb.size (fun b _ h2 _=>Vb.block b h2)
   replace kl:=ma kl Vb;replace oa:=yb oa Vb zR;replace Ra:=Bg Ra Vb;replace ba:=pa ba Vb;clear Vb o7 da Ma Ca ld Rk Et cl ll cc lc kc;have Zc:=zHe (gb:=v.ownBlock) hc ba (fun q e=>by have:=(oa.lt q e).1;omega)
   refine yu ?_;refine Bd (Tb N N) rfl rfl rfl ?_;go_simp;have ja:=zA w7 (.cells #[ve D1 co.length k1,ve A6 (li.length+1) c6,ve A7 (qn L qu).length c7] 28);have Ka:=zGN w7 (ve D1 co.length k1) (ve A6 (li.length+1) c6) (ve A7 (qn L qu).length c7) 28;refine ⟨Mf ja Df,?_⟩;replace kl:=ma kl ja;replace oa:=yb oa ja zR;replace Ra:=Bg Ra ja;replace ba:=pa ba ja;replace Zc:=nu Zc ja.size (fun b _ h2 _=>ja.block b h2)
   replace dh:=nu dh ja.size (fun b _ h2 _=>ja.block b h2)
   replace Es:=nu Es ja.size (fun b _ h2 _=>ja.block b h2)
   have Dl:=Cb Df ja.size
   refine zPU ?_
   generalize w7.alloc _=w8 at kl oa Ra Zc dh Es ba Ka Dl |-;generalize w7.1.size=g7 at Ka |-;clear ja Df;have da:=(Tb N N).refl w8;refine yu ?_;refine Bd (Tb N N) rfl rfl rfl ?_;refine Iv _ _ rfl jw rfl oa rfl Ka (by intro u hu;simp at hu;rcases hu with rfl | rfl | rfl <;> rfl) zO Dl ?_
   intro v' wn Va Ja tb;have Jc:∀ q,v.ownBlock=vD q -> N <= q:=fun q e=>(oa.lt q e).1
   refine ⟨Xx Ja Dl Jc,?_⟩;have Xh:=zDb Ra Zc dh Es Ja tb;rw [Xl.out] at Xh;replace kl:=kl.grown Ja (fun e=>by first | (have:=Jc _ e;omega) | (have:=Jc _ e.symm;omega))
   replace ba:=ba.trans ((Ee oa Ja Dl).mono zO);have Z1:=vJ Xh Va;clear oa Ra Zc dh Es Ja tb Jc Dl Ka da Xh;have da:=(Tb N N).refl wn
   refine zPU ?_
   refine yu ?_;refine Ec ?_;clear da;rw [<- Jm.out] at Va;obtain ⟨Ap,cp,rfl,-⟩:=mc Va;clear Va Xl Yl HRG JI Pc HQT HCo nG HQu OP rB Sh hMd mf hc hl hq;obtain ⟨-,-,-,hPd⟩:=Ki Z1;have HM3:=Jm.out;obtain ⟨M,hM⟩:=zEX (ps.length);have hM4:M <= 400003:=by omega
   have hMM:=zH hM;rw [<- hM];clear HM3 hM;have cl:=kl.cell;have ll:=kl.lt;go_wp2_with fail
   refine (rG.out _).mono ?_;rintro e w9 ⟨u1,u2,rfl,hpa,Ll,ra⟩;replace hPd:=hPd.below xC ra;replace kl:=ma kl ra;replace ba:=pa ba ra;clear ra cl ll Z1;obtain ⟨Aa,ca,rfl⟩:=Sg hpa;clear hpa;have HPG:=zH (show ∀ j,j<L.n -> ((List.range L.n).map (Ni L.p (Vc L.p).1 L.n)).getD j 0=Ni L.p (Vc L.p).1 L.n j from fun j hj=>by rw [By,Gb hj])
   have gz:=zH (show ((List.range L.n).map (Ni L.p (Vc L.p).1 L.n)).length=L.n by simp)
   have HCO:=zH (show ∀ j i,LG L ps j i=Re L.p (ps.getD i []) (Ni L.p (Vc L.p).1 L.n j) from fun _ _=>rfl)
   have Fq:=zH (show qQ L ps=(List.range L.n).map fun j=>(List.range M).map (LG L ps j) by rw [hMM.out];rfl)
   generalize (List.range L.n).map (Ni L.p (Vc L.p).1 L.n)=P at *;obtain ⟨Ab,cb,rfl⟩:=Sg Ll;have hrp:=(Mb Ll).2.2.2.2;obtain ⟨T,hTT⟩:=zEX (P.length);have HTT:=zH hTT;have gT:(T:Int) <= 1024:=by have:=gz.out;omega
   rw [<- hTT];clear hTT Ll;go_upto_region 9 with fail
   have oa:=ju w9 28 (base:=w9.1.size) zR;have ja:=zA w9 (.cells #[] 28);have kl9:=kl.alloc (.cells #[] 28);have hkl9:=kl.lt;go_wp2_with fail
   go_loopw [11,12] (fun u y wr=>∃ (j:Nat) (v:vw) (cs:List vw),v=u /\ j <= T /\ y=vd vt j /\ Blk wr w.1.size 38 #[vd vq L.p,vd vt L.block,vd vt L.queries,vd vt L.k,vd vt L.n,vd vt L.secret,vd vt L.rows,vd vt L.a,vd vt L.b,vd vt L.b,vd vt L.b] /\ wr.ownsRow w9.1.size 28 1 v j cs /\ qh w9.1.size wr v cs ((List.range j).map fun j=>(List.range M).map (LG L ps j)) /\ vz w9.1.size w9 wr) (fun _ y _=>T-(intOf y).toNat)
   case atStart=>exact ⟨0,_,[],rfl,Rb _,rfl,kl9,oa,wJ _ _ _,ja⟩
   case round =>
    clear kl kl9 oa ja;obtain ⟨j,v,cs,rfl,hj,rfl,kl,oa,Ra,tg⟩:=hrel;by_cases hltj:j<T
    ·have q3:(j:Int)<T:=by omega
     have q4:(0:Int)<=j:=by omega
     obtain ⟨wo,aF⟩:=zEX (wr);subst aF;have hjP:j<P.length:=by have:=HTT.out;omega
     have vG:=zH (rS (fun j=>(List.range M).map (LG L ps j)) j)
     obtain ⟨f,hf⟩:=zEX (LG L ps j);have HF:=zH (show ∀ i,f i=Re L.p (ps.getD i []) (P.getD j 0) from fun i=>by rw [hf,HCO.out,HPG.out j (zQ gz.out)])
     have HFT:=zH (show ∀ x∈(List.range M).map f,x<18446744073709551616 from fun x hx=>by
      obtain ⟨i,-,rfl⟩:=Ie.1 hx;rw [hf];exact HCE.out _ _ _)
     have oB:=zH (fun i=>JC f i)
     rw [<- hf] at vG;clear hf;go_upto_region 13 with fail
     have Zr:=ju wo 22 (base:=wo.1.size) zR;have ja:=zA wo (.cells #[] 22);go_wp2_with fail
     go_loopw [13,14] (fun u y wr=>∃ (i:Nat) (x:vw),x=u /\ i <= M /\ y=vd vt i /\ wr.ownsRow wo.1.size 22 1 x i (Qa ((List.range i).map f)) /\ vz wo.1.size wo wr) (fun _ y _=>M-(intOf y).toNat)
     case atStart=>exact ⟨0,_,rfl,Rb _,rfl,Zr,ja⟩
     case round =>
      clear Zr ja;obtain ⟨i,x,rfl,Ih,rfl,Zr,Nf⟩:=hrel;have PQ:=pa tg Nf;by_cases qM:i<M
      ·have q5:(i:Int)<M:=by omega
       have q6:(0:Int)<=i:=by omega
       have hip:i<ps.length:=by rw [<- hMM.out];exact qM
       obtain ⟨bp,qp,A1,l1,c1,rfl,hbp9,hcp9,hrp9⟩:=yp hPd hip;obtain ⟨bq,qq,rfl,hbq9,hcq9⟩:=Ve hrp hjP;have bH:=(PQ.cell (p:=⟨bp,qp+i,vB⟩) hbp9).trans hcp9;have To:=(PQ.cell (p:=⟨bq,qq+j,vB⟩) hbq9).trans hcq9;have hrp1:=Sa PQ hrp9;have hs9:=tg.size;have hso:=Nf.size;have hbp:bp<wo.1.size:=by omega
       have hbq:bq<wo.1.size:=by omega
       have hbp2:bp<wr.1.size:=by omega
       have hbq2:bq<wr.1.size:=by omega
       have hll:w.1.size<wo.1.size:=kl.lt;clear hbp9 hcp9 hrp9 hbq9 hcq9;have hgd:ps.getD i []=ps[i]:=by rw [Gc,Dc hip];rfl
       have Mk:=zH (HF.out i);rw [hgd] at Mk;obtain ⟨pi,hpi⟩:=zEX (ps[i]);rw [<- hpi] at hrp1 Mk;obtain ⟨y,hy⟩:=zEX (P.getD j 0);rw [<- hy] at To Mk;obtain ⟨z,hz⟩:=zEX (f i);rw [<- hz] at Mk;have HFNi:=zH (oB.out i);rw [<- hz] at HFNi;have Mv:=zH (fun w' (Hh:vz wr.1.size wr w')=>by have:=HEv.out A1 l1 c1 y pi w' (Sa Hh hrp1);rw [<- Mk.out] at this;exact this)
       have gF:=ma kl Nf;have cl:=gF.cell;have ll:=gF.lt;clear hgd hpi hy hz Mk hip gF;go_upto_region 16 with fail
       refine Yc (Au wo.1.size) [11,12,13] [0,1,2,3,4,5,6,7,8,9,10,11,12,13,14] zK zK ?_;refine Td (uh wo.1.size) ?_;intro Wc Ca da;have Ma:=Lf Ca;have ld:wo.1.size <= Wc.1.size:=by have:=Ma.size;omega
       replace Zr:=yb Zr Ma zR;replace Nf:=pa Nf Ma;refine Kv ?_;refine mI (uh wo.1.size) rfl rfl rfl (fun _=>by go_simp <;> rfl) ((Mv.out _ Ma).mono ?_)
       rintro e tu ⟨rfl,ra⟩;refine ⟨_,rfl,dE ra ld,?_⟩;replace da:=(uh wo.1.size).trans _ _ _ da (dE ra ld);refine zPU ?_;have KU:wo.1.size <= tu.1.size:=by have:=ra.size;omega
       replace Zr:=yb Zr ra zR;replace Nf:=pa Nf ra;clear ra Ma Ca ld cl ll bH To hbp2 hbq2 da;have da:=(uh wo.1.size).refl tu;refine Kv ?_;refine Bd (uh wo.1.size) rfl rfl rfl ?_;go_simp;have ja:=zA tu (.cells #[vd vq z] 22);have Ka:=mh tu (vd vq z) 22;refine ⟨dE ja KU,?_⟩;replace Zr:=yb Zr ja zR;replace Nf:=pa Nf ja;have LU:=Cb KU ja.size
       refine zPU ?_
       generalize tu.alloc _=XF at Zr Nf Ka LU |-;generalize tu.1.size=g10 at Ka |-;clear ja KU da;have da:=(uh wo.1.size).refl XF;refine Kv ?_;refine Bd (uh wo.1.size) rfl rfl rfl ?_;refine Iv _ _ rfl Ag rfl Zr rfl Ka (Gf [z]) zO LU ?_;intro x' wn sV Ja tb;have hBn:=Ee Zr Ja LU;refine ⟨hBn,?_⟩;replace Nf:=Nf.trans hBn;replace sV:wn.ownsRow wo.1.size 22 1 x' (i+1) (Qa ((List.range (i+1)).map f)):=Ii (b:=[z]) sV HFNi.out;clear Zr Ja tb hBn Ka da;have da:=(uh wo.1.size).refl wn
       refine zPU ?_
       refine Kv ?_;refine Ec ?_;go_wp2
       go_roundw
       case rel=>exact ⟨i+1,x',rfl,zO,by go_num,sV,Nf⟩
       case measure=>simp [intOf];omega
      ·obtain rfl:i=M:=by omega
       have q5:¬((i:Int)<i):=by omega
       obtain ⟨Ax,cx,rfl,-⟩:=mc Zr;have Jc:∀ q,v.ownBlock=vD q -> q<wo.1.size:=fun q e=>(oa.lt q e).2
       have hx:=OC (N:=w9.1.size) (gb:=v.ownBlock) Zr HFT.out tg.size Jc;replace kl:=ma kl Nf;replace oa:=yb oa Nf zR;replace Ra:=Bg Ra Nf;replace tg:=pa tg Nf;clear Nf Zr Jc PQ;go_wp2_with (at_builtin;refine fe rfl _ _ rfl jw rfl (oa.alloc _) rfl (mh _ _ _) (by intro u hu;simp at hu;subst hu;rfl) zO (by simp;have:=tg.size;omega) ?_)
       intro v' wn Va Ja tb;have ja:=zA wr (.cells #[ve Ax i cx] 28);have Br:∀ q,v.ownBlock=vD q -> w9.1.size <= q:=fun q e=>(oa.lt q e).1
       have Cl:=Ee (oa.alloc _) Ja (by simp;have:=tg.size;omega)
       have hk9:w.1.size<w9.1.size:=hkl9;replace kl:=ma kl ja;replace Ra:=Bg Ra ja;replace hx:=nu hx ja.size (fun b _ h2 _=>ja.block b h2)
       have Xh:=eE Ra hx Ja (by simpa using tb)
       rw [vG.out] at Xh;replace kl:=kl.grown Ja (fun e=>by first | (have:=Br _ e;omega) | (have:=Br _ e.symm;omega))
       replace tg:=(pa tg ja).trans Cl;clear ja Ja tb Cl Ra hx oa;go_wp2
       go_roundw
       case rel=>exact ⟨j+1,v',_,rfl,zO,by go_num,kl,Va,Xh,tg⟩
       case measure=>simp [intOf];omega
    ·obtain rfl:j=T:=by omega
     have q3:¬((j:Int)<j):=by omega
     have jM:=zDc Ra ba.size;rw [show (List.range j).map (fun j=>(List.range M).map (LG L ps j))=qQ L ps by rw [Fq.out,show (j:Nat)=L.n by rw [HTT.out,gz.out]]] at jM
     have Va:=Bh oa ba.size;go_wp2;go_ret
     exact ⟨_,_,rfl,_,Va,jM,ba.trans (tg.mono ba.size)⟩
theorem J1 {p:Nat} (hp:0<p) (l:List Nat) (x:Nat):Kl p x l=Re p l x:=Cg.eq (p:=p) ((rV l).trans (GZ l).symm) (zDp hp x l) (ZN hp l x)
theorem zGk (L:Xa) (t1 t2:Nat) (w:vv) (hL:ed L) (h1:t1=L.k+L.block-1) (h2:t2=2*L.k-1) :
  vA prog 81 #[vf (Eb L)] w fun e w'=>e=vn (vf #[vd vt L.k,vd vt t1,vd vt t2]) /\ vz w.1.size w w':=by
 have La:=hL.b1;have Da:=hL.b2;have Xm:=hL.q1;have Ot:=hL.q2;have hk:=hL.k;obtain ⟨t3,ht3⟩:=zEX (L.k+L.block);obtain ⟨t4,ht4⟩:=zEX (2*L.k);have e1:(L.k:Int)+L.block=(t3:Int):=by omega
 have e2:=Ud t3;have e3:(t3:Int)-1=(t1:Int):=by omega
 have e4:=Ud t1;have e5:(2:Int)*L.k=(t4:Int):=by omega
 have e6:=Ud t4;have e7:(t4:Int)-1=(t2:Int):=by omega
 have e8:=Ud t2;clear La Da Xm Ot hk ht3 ht4 h1 h2 hL;unfold Eb;obtain ⟨kl,ka,ba,-⟩:=ig w 38 173 #[vd vq L.p,vd vt L.block,vd vt L.queries,vd vt L.k,vd vt L.n,vd vt L.secret,vd vt L.rows,vd vt L.a,vd vt L.b,vd vt L.b,vd vt L.b] #[vd vt 0,vd vt 0,vd vt 0];go_enter func81,ntmps81
 go_upto_region 1 with fail
 generalize (w.alloc _).alloc _=w1 at kl ka ba |-;have OD:=kl.cell;obtain ⟨cc2,f2⟩:=ka.cells';have l1:=kl.lt;have l2:=ka.lt;go_wp2_with fail
 have k3:=zp ka (vd vt L.k) (vd vt t1) (vd vt t2);have hg:=Cp (w:=w1) (g:=w.1.size+1) (vd vt L.k) (vd vt t1) (vd vt t2);replace ba:=Qe ba hg;revert k3 ba
 generalize ((vE _ _ _).setCell _ _).setCell _ _=wf;intro k3 ba;have c4:=k3.cell;exact Tc (v:=vf #[vd vt L.k,vd vt t1,vd vt t2]) (by simp [results,results81,go_sem,c4]) rfl ⟨rfl,ba⟩
end Go.Proofs.YtodmnanljoaocaaGreat
