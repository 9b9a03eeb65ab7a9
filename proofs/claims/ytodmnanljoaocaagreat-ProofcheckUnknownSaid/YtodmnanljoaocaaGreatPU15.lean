/- A part of the proof. No condition. -/
import Derived.Test.YtodmnanljoaocaaGreatPU14

set_option maxRecDepth 100000
set_option maxHeartbeats 8000000
set_option linter.unusedVariables false
set_option linter.unusedSimpArgs false
namespace Go.Proofs.YtodmnanljoaocaaGreat
open Go.RowKit
open Tryz
open Go renaming World->vv, Value->vw, Addr->vx, TypeId->vy, Calls->vA
open Go.Value renaming int->vd, slice->ve, agg->vf
open Go.IntKind renaming u64->vq, i64->vt
open Go.Ending renaming returned->vn
open Go.RowKit renaming Below->vz
open Go.World renaming setCell->vE
open Go.Act renaming put->vF
open Option renaming none->vB, some->vD
theorem zGD (x:Nat) (A:Option vx) (n c:Nat) (l:List Nat) (w:vv) (hl:RWd w [ve A n c] l) (hlen:l.length <= 1000000) :
  vA prog 106 #[vd vq x,ve A n c] w fun e w'=>∃ v,e=vn v /\ w'.ownsRow w.1.size 22 1 v (n+1) (Qa (x :: l)) /\ vz w.1.size w w':=by
 obtain ⟨rfl,h1,h2,ta,Ka⟩:=Mb hl;clear hl ta h1 h2;have ba:=zA w (.cells #[vd vq x] 22);have jA:(w.alloc (.cells #[vd vq x] 22)).ownsRow w.1.size 22 1 (ve (vD ⟨w.1.size,0,vB⟩) 1 1) 1 (Qa [x]):=⟨rfl, .inr ⟨w.1.size,1,_,rfl,zR,heap_alloc_new w _,zR,by simp [maxLen],rfl,rfl⟩⟩
 have zV:=Ka.below ba;go_enter func106,ntmps106
 go_wp2_with (at_builtin;refine fe rfl _ _ rfl WD rfl jA rfl zV (Gf _) zO (zQ ba.size) ?_)
 intro v' w2 oa Ja tb;go_wp2;go_ret
 exact ⟨_,rfl,by rw [Nat.add_comm];exact Ii (a:=[x]) oa rfl,ba.trans (Ee jA Ja (zQ ba.size))⟩
theorem zCk {l:List Nat} (h:Uc l=true) {i:Nat} (hi:i<l.length):Uc [l.getD i 0]=true:=by
 unfold Uc at *;rw [Gc,Dc hi];have:=Wg.1 h l[i] (pg hi)
 simpa using this
theorem zCj {x:Nat} (h:Uc [x]=true):x<18446744073709551616:=by
 have:x<Ob:=by simpa [Uc] using h
 exact Sp this
theorem ZO {O:Oa} {k:Nat} (h:jm O k) (lab:Nat) (qs:List (List Nat)):∀ i,i <= qs.length -> jm (kd O lab (qs.take i)) (k+i)
 | 0,_=>h
 | i+1,hi=>by
  rw [WT O lab qs i zO];exact WW (ZO h lab qs i zO) _ _
theorem W9 {N base n:Nat} {w:vv} {gb:Option Nat} {e:vy} {x:vw} {l:List Nat} (h:w.ownsRow base e 1 x n (Qa l)) (hl:∀ y∈l,y<18446744073709551616) (hN:N <= base) (hg:∀ b,x.ownBlock=vD b -> vD b≠gb):Bi N gb w x l:=fun u hu=>by
 have ho:=Ge (u:=u) h fun b hb=>hu b (Cb hN (h.lt b hb).1) (h.lt b hb).2 (hg b hb)
 obtain ⟨A,c,rfl,-⟩:=mc ho;exact Yf ho hl
theorem zER (w:vv) (x:vw) (t:vy) (base:Nat) (hb:base <= w.1.size):(w.alloc (.cells #[x] t)).ownsRow base t 1 (ve (vD ⟨w.1.size,0,vB⟩) 1 1) 1 [x] :=
 ⟨rfl, .inr ⟨w.1.size,1,_,rfl,hb,heap_alloc_new w _,zR,by simp [maxLen],rfl,rfl⟩⟩
theorem zDd {N:Nat} {w:vv} {v x:vw} {l:List Nat} (h:Bi N v.ownBlock w x l):qh N w v [x] [l]:=⟨rfl,fun i h1 h2=>by
 obtain rfl:i=0:=by simp at h1;omega
 exact h⟩
theorem zET {w w':vv} {base:Nat} {e:vy} {size:Nat} {v:vw} {n:Nat} {xs:List vw} {u:Option Nat} (h:w.ownsRow base e size v n xs) (hg:w.grownBy w' u) (Ua:∀ q,v.ownBlock=vD q -> u=vD q -> False):w'.ownsRow base e size v n xs:=by
 obtain ⟨h1,h2⟩:=h;refine ⟨h1,?_⟩;rcases h2 with h2 | ⟨g,cap,cur,hv,Vo,hh,r⟩
 ·exact Or.inl h2
 ·exact Or.inr ⟨g,cap,cur,hv,Vo,by rw [hg.block g (Ky.1 hh).1 (fun e=>Ua g (by rw [hv];rfl) e.symm)];exact hh,r⟩
theorem zD9 {i ia ic nh:Nat} (h1:ia=2*i) (h2:ic=2*(i+1)) (h:i+1 <= nh):2*nh-(intOf (vd vt ic)).toNat<2*nh-(intOf (vd vt ia)).toNat:=by
 simp only [intOf,Dn];omega
def bY (w:vv) (K:Nat -> Prop) (d:Nat) (O1:Oa) (L1:List Nat) (lv vs:vw) (wq:vv):Prop :=
 ∃ (j:Nat) (ls:List (List Nat)) (Oj:Oa) (lj:List Nat) (A':Option vx) (n' c':Nat) (KX:Nat -> Prop) (M:Nat) (cs:List vw),
  (lj.length=2^j /\ (∀ x∈lj,x<18446744073709551616) /\ wq.ownsRow (w.1.size+2) 22 1 lv (2^j) (Qa lj) /\ ∀ b,lv.ownBlock=vD b -> vs.ownBlock≠vD b) /\
  (jm Oj M /\ M+2*2^j <= 204096) /\ (Ls d O1 L1=ls++Ls j Oj lj /\ TF d O1 L1=TF j Oj lj /\ ls.length+j <= 10) /\
  (wq.ownsRow (w.1.size+2) 28 1 vs (ls.length+1) cs /\ qh (w.1.size+2) wq vs cs (ls++[lj])) /\
  (Blk wq w.1.size 53 #[.bool Oj.ideal,vd vq Oj.st,vd vt Oj.dr,ve A' n' c',ve vB 0 0,ve vB 0 0] /\ Blk wq (w.1.size+1) 53 #[.bool false,vd vq 0,vd vt 0,ve vB 0 0,ve vB 0 0,ve vB 0 0]) /\
  (Hd KX wq (fun u=>Sd u [ve A' n' c'] Oj.qs) /\ (∀ b,KX b -> (K b /\ b<w.1.size) \/ w.1.size+2 <= b) /\ ∀ b,vs.ownBlock=vD b -> ¬KX b) /\ vz w.1.size w wq
theorem zGb {K:Nat -> Prop} {O:Oa} {k:Nat} (h:jm O k) (hk:k <= 100000) (A B A0:Option vx) (n c m e n0 c0:Nat) (leaves:List (List Nat)) (salts:List Nat) (d:Nat) (w:vv)
  (hl:Ye w [ve A n c] leaves) (hs:RWd w [ve B m e] salts) (hq:Hd K w fun u=>Sd u [ve A0 n0 c0] O.qs) (hd:d <= 10) (hn:leaves.length=2^d) (ny:salts.length=leaves.length) (Tt:Uc salts=true) (hle:∀ l∈leaves,Uc l=true) (hll:∀ l∈leaves,l.length <= 100000) :
  vA prog 42 #[vf (mg O (ve A0 n0 c0)),ve A n c,ve B m e] w fun e w'=>∃ At nt ct A' n' c',e=vn (.tuple #[ve At nt ct,vf (mg (TF d (kd O 16 (pn leaves salts)) (Mj O 16 (pn leaves salts))) (ve A' n' c')),vd vt 0]) /\
   Hd (fun b=>w.1.size <= b) w' (fun u=>Ye u [ve At nt ct] (Ls d (kd O 16 (pn leaves salts)) (Mj O 16 (pn leaves salts)))) /\ Hd (fun b=>K b \/ w.1.size <= b) w' (fun u=>Sd u [ve A' n' c'] (TF d (kd O 16 (pn leaves salts)) (Mj O 16 (pn leaves salts))).qs) /\ vz w.1.size w w':=by
 obtain ⟨ko,kr,ba,db⟩:=ig w 53 53 (mg O (ve A0 n0 c0)) #[.bool false,vd vq 0,vd vt 0,ve vB 0 0,ve vB 0 0,ve vB 0 0];have HR:=zH hl;obtain ⟨rfl,yd,Rf,-⟩:=Ki hl;have gm:=Mh yd Rf;obtain ⟨rH,Pf,ue,-,hrs⟩:=Mb hs;have gm2:=Mh Pf ue;obtain ⟨nn,Dk⟩:=zEX (leaves.length);have qH:m=nn:=by omega
 subst qH;have Fu:=zH (fun w=>by have:=E8 m w;rw [show Cv m=true by rw [Dk,hn];exact D6 hd] at this;exact this)
 have HEs:=zH (fun w1 (hb:vz w.1.size w w1)=>by have:=vQ B m e salts w1 (Sa hb hs);rw [Tt] at this;exact this)
 have Li:=zH (fun A1 n1 c1 l w1 (hm:l∈leaves) (ki:RWd w1 [ve A1 n1 c1] l)=>by have:=vQ A1 n1 c1 l w1 ki;rw [hle l hm] at this;exact this)
 obtain ⟨qs,hqs⟩:=zEX (pn leaves salts);have hql:qs.length=m:=by rw [hqs,Dk];simp [pn]
 have HQL:=zH (show qs.take m=qs from GD zO)
 have Nv:=zH (show ∀ x∈(List.range m).map fun i=>Pe (kd O 16 (qs.take i)) 16 (qs.getD i []),x<18446744073709551616 from fun x hx=>by
  obtain ⟨i,hi,rfl⟩:=Ie.1 hx;exact Sp (kC (ZO h 16 qs i (zQ (Lm.1 hi))).ans _ _))
 have HQG:=zH (show ∀ i,i<m -> qs.getD i []=salts.getD i 0 :: leaves.getD i [] from fun i hi=>by rw [hqs];simp [pn,Gc,show i<leaves.length by omega])
 have HOk:=zH (fun i (hi:i <= m)=>ZO h 16 qs i zO)
 have hm1024:m <= 1024:=by rw [Dk,hn];exact Cb (QB zO hd) zD
 have Dq:=zH (show ∀ i,i<m -> (leaves.getD i []).length <= 100000 from fun i hi=>by
  rw [Gc,Dc (show i<leaves.length by omega)]
  exact hll _ (pg _))
 have Vy:=zH (fun i (hi:i<m) KX A1 n1 c1 Bx mx dx w1 (Xm:Hd KX w1 fun u=>Sd u [ve A1 n1 c1] (kd O 16 (qs.take i)).qs) (hx:RWd w1 [ve Bx mx dx] (qs.getD i [])) =>
  MQ (K:=KX) (kd O 16 (qs.take i)) (HOk.out i (Nat.le_of_lt hi)).fair A1 Bx n1 c1 mx dx 16 (qs.getD i []) w1 Xm hx zD (by rw [HQG.out i hi];simp) (HOk.out i (Nat.le_of_lt hi)).st (ti (HOk.out i (Nat.le_of_lt hi)).le zO) (by rw [HQG.out i hi,pk];have:=Dq.out i hi;omega))
 have zi:=zH (show ∀ i,i<m -> kd O 16 (qs.take (i+1))=td (kd O 16 (qs.take i)) 16 (qs.getD i []) from fun i hi=>WT O 16 qs i zO)
 obtain ⟨f,hf⟩:∃ f:Nat -> Nat,f=fun i=>Pe (kd O 16 (qs.take i)) 16 (qs.getD i []):=⟨_,rfl⟩
 have HFV:=zH (show Mj O 16 qs=(List.range m).map f by unfold Mj;rw [hql,hf])
 rw [<- hf] at Nv;have HF:=zH (fun i=>show f i=Pe (kd O 16 (qs.take i)) 16 (qs.getD i []) by rw [hf])
 have HSA:=zH (fun x A1 n1 c1 l w1 (hx:RWd w1 [ve A1 n1 c1] l) (hlen:l.length <= 1000000)=>zGD x A1 n1 c1 l w1 hx hlen)
 have Fq:=zH hrs;have HES:=zH (show ∀ i,i<m -> Uc [salts.getD i 0]=true from fun i hi=>zCk Tt zO)
 have HMS:=zH rH;have Bn:=zH Dk;have HD:=zH (And.intro hd hn);have pB:=zH (show k <= 100000 /\ m <= 1024 from ⟨hk,hm1024⟩)
 have xB:=zH hq;have d1:((m:Int)!=m)=false:=by simp
 rw [<- hqs];rw [<- Dk] at HR yd gm |-;rw [HFV.out];clear h hk hl hs hq Tt hle hll hqs hql hf hrs rH Dk hd hn ny db yd Rf Pf ue;unfold mg at *;go_enter func42,ntmps42
 go_upto_region 1 with fail
 generalize (w.alloc _).alloc _=w1 at ko kr ba |-;go_wp2_with fail
 refine (Fu.out w1).mono ?_;rintro e _ ⟨rfl,rfl⟩;go_wp2_with fail
 refine (HEs.out w1 ba).mono ?_;rintro e w2 ⟨rfl,Da⟩;replace ko:=ma ko Da;replace kr:=ma kr Da;replace ba:=pa ba Da;clear Da Fu HEs;have KO:=zH ko;have KR:=zH kr;have HB:=zH ba;clear ko kr ba;go_wp2_with fail
 go_loopw [9] (fun y wr=>∃ i:Nat,i <= m /\ y=vd vt i /\ vz w2.1.size w2 wr) (fun y _=>m-(intOf y).toNat)
 case atStart=>exact ⟨0,Rb _,rfl,Bb _ _⟩
 case round =>
  obtain ⟨i,hi,rfl,Wa⟩:=hrel;by_cases ta:i<m
  ·have g1:(0:Int)<=i:=by omega
   have g2:(i:Int)<m:=by omega
   obtain ⟨b1,q1,A1,n1,c1,eA,Vm,jv,Fg,Uf⟩:=LF (Fm (pa HB.out Wa) HR.out) (show i<leaves.length by rw [<- Bn.out];exact ta)
   have HEi:=zH (Li.out A1 n1 c1 (leaves.getD i []) wr (by rw [Gc,Dc (show i<leaves.length by rw [<- Bn.out];exact ta)];exact pg _) Uf)
   have Pc:=zH ta;subst eA;clear Uf Fg ta;go_wp2_with fail
   refine (HEi.out).mono ?_;rintro e w3 ⟨rfl,Ta⟩;replace Wa:=pa Wa Ta;clear Ta jv;go_wp2
   go_roundw
   case rel=>exact ⟨i+1,Pc.out,by go_num,Wa⟩
   case measure=>have:=Pc.out;simp [intOf];omega
  ·obtain rfl:m=i:=by omega
   have ko:=KO.out.below Wa KO.out.lt;have kr:=KR.out.below Wa KR.out.lt;have ba:=pa HB.out Wa;have hd0:Hd (fun b=>K b /\ b<w.1.size) wr fun u=>Sd u [ve A0 n0 c0] O.qs:=Za (zk xB.out) (Yb ba)
   clear Wa ta hi KO KR HB xB Li;go_wp2_with fail
   go_loopw [10,11] (fun vl y wr=>∃ (i:Nat) (A':Option vx) (n' c':Nat) (KX:Nat -> Prop),i <= i /\ i <= m /\ y=vd vt i /\ wr.ownsRow (w.1.size+2) 22 1 vl i (Qa ((List.range i).map f)) /\
    Blk wr w.1.size 53 #[.bool (kd O 16 (qs.take i)).ideal,vd vq ((kd O 16 (qs.take i)).st:Int),vd vt ((kd O 16 (qs.take i)).dr:Int),ve A' n' c',ve vB 0 0,ve vB 0 0] /\ Blk wr (w.1.size+1) 53 #[.bool false,vd vq 0,vd vt 0,ve vB 0 0,ve vB 0 0,ve vB 0 0] /\
    Hd KX wr (fun u=>Sd u [ve A' n' c'] (kd O 16 (qs.take i)).qs) /\ Hid (∀ b,KX b -> (K b /\ b<w.1.size) \/ w.1.size+2 <= b) /\ Hid (∀ b,vl.ownBlock=vD b -> ¬KX b) /\ vz w.1.size w wr) (fun _ y _=>m-(intOf y).toNat)
   case atStart=>exact ⟨0,A0,n0,c0,_,zR,Rb _,rfl,⟨rfl, .inl ⟨rfl,rfl⟩⟩,ko,kr,hd0,zH (fun b hb=>.inl hb),zH (fun b (hb:(ve vB 0 0).ownBlock=vD b)=>nomatch hb),ba⟩
   case round =>
    clear ko kr hd0 ba;obtain ⟨i,A1,n1,c1,KX,-,hi,rfl,oa,ko,kr,Ui,Vl,jG,ba⟩:=hrel;by_cases ta:i<m
    ·have g1:(0:Int)<=i:=by omega
     have g2:(i:Int)<m:=by omega
     obtain ⟨Oi,DJ⟩:=zEX (kd O 16 (qs.take i));obtain ⟨On,EJ⟩:=zEX (kd O 16 (qs.take (i+1)));obtain ⟨xi,uv⟩:=zEX (f i);have iG:=zH (fun KX A1 n1 c1 Bx mx dx w1 Xm hx=>Vy.out i ta KX A1 n1 c1 Bx mx dx w1 Xm hx)
     rw [<- zi.out i ta,<- HF.out i,<- DJ,<- EJ,<- uv,HQG.out i ta] at iG;rw [<- DJ] at ko Ui;obtain ⟨KW,CJ⟩:∃ KW:Nat -> Prop,KW=fun b=>KX b /\ b<wr.1.size:=⟨_,rfl⟩
     have RJ:=zk Ui;rw [<- CJ] at RJ;have lG:=zH (show ∀ b,KW b -> KX b /\ b<wr.1.size by rw [CJ];exact fun b hb=>hb)
     have Sv:=zH (show ∀ b,u10.ownBlock=vD b -> b<wr.1.size /\ ¬KX b from fun b hb=>⟨(oa.lt b hb).2,jG.out b hb⟩)
     clear CJ;obtain ⟨b1,q1,A3,n3,c3,eA,Vm,ZG,Kt,ss⟩:=LF (Fm ba HR.out) (show i<leaves.length by rw [<- Bn.out];exact ta)
     have AV:=Fq.out.below ba;rw [HMS.out] at AV;obtain ⟨b2,q2,eB,Vn,VU⟩:=Ve AV (show i<salts.length by rw [<- HMS.out];exact ta)
     obtain ⟨sx,DH⟩:=zEX (salts.getD i 0);obtain ⟨lf,hlf⟩:=zEX (leaves.getD i []);rw [<- DH] at VU;rw [<- hlf] at ss;have hlfl:lf.length <= 1000000:=by rw [hlf];have:=Dq.out i ta;omega
     rw [<- DH,<- hlf] at iG;have Np:=zH (fun w1 (hb:vz wr.1.size wr w1)=>HSA.out sx A3 n3 c3 lf w1 (Sa hb ss) hlfl)
     have xg:=zH (show ∀ x∈sx :: lf,x<18446744073709551616 from sh (by rw [DH];exact zCj (HES.out i ta)) (Mb ss).2.2.2.1)
     have QI:=zH (show (List.range i).map f++[xi]=(List.range (i+1)).map f by rw [uv];exact JC f i)
     subst eA eB;have Pc:=zH ta;have HOn:=zH EJ;obtain ⟨NQ,Dd⟩:=zEX (wr.1.size);have lq0:w.1.size<NQ:=by rw [Dd];exact ko.lt
     have lq1:w.1.size+1<NQ:=by rw [Dd];exact kr.lt
     have lqa:b1<NQ:=by rw [Dd];exact Vm
     have lqb:b2<NQ:=by rw [Dd];exact Vn
     have nx0:¬Xb w.1.size:=id;have nxa:¬Xb b1:=id;have nxb:¬Xb b2:=id;have Vd:=zH Dd;have co:=ko.cell;have KO:=zH ko;have KR:=zH kr;have HB:=zH ba;have Cu:=zH RJ;have nD:=zH oa;clear ss Kt AV DH hlf hlfl ta DJ EJ uv Dd ko kr ba Ui RJ oa Vm Vn hi;go_wp2_with fail
     refine Ps (Xb) (Xb) (NQ) [9,10,16] [0,1,2,3,4,5,6,7,8,9,10,11,12,13] [(14,53,#[.bool false,vd vq 0,vd vt 0,ve vB 0 0,ve vB 0 0,ve vB 0 0])] [15,16] zK (ft.2 ⟨⟨_,rfl,rfl,fun a w=>by go_simp <;> rfl⟩,Kq _⟩) zK ?_
     refine Rs ?_;intro Wc Ca da;have Fa:Hid (Qh Xb NQ Xb Wc):=zH (by rw [Ca.out,Vd.out];exact ⟨zR,fun _ h=>h.elim,fun _ _ h=>h⟩)
     have df:=zH (show vz wr.1.size wr Wc by rw [Ca.out];exact (Bb _ _).drew)
     have oc:=zH (show vz w.1.size w Wc by rw [Ca.out];exact HB.out.drew)
     have Jo:=zH (show Blk Wc _ _ _ by rw [Ca.out];exact KO.out.drew)
     have uc:=zH (show Blk Wc _ _ _ by rw [Ca.out];exact KR.out.drew)
     have Ug:=zH (Za Cu.out (show Od _ _ Wc by rw [Ca.out];exact Oo))
     have Ho:=zH (show Wc.ownsRow _ _ _ _ _ _ by rw [Ca.out];exact Ge nD.out fun _ _=>rfl)
     clear Ca HB KO KR Cu nD;refine Ig ?_;refine Hv (f:=?_) (vals:=?_) rfl rfl rfl Fa ?_ (fun wF Pa=>?_)
     rotate_left 3
     replace df:=zH (pa df.out Pa);replace oc:=zH (pa oc.out Pa);replace Jo:=zH (Jo.out.below Pa Jo.out.lt);replace uc:=zH (uc.out.below Pa uc.out.lt);replace Ug:=zH (Za Ug.out (Yb Pa));replace Ho:=zH (yb Ho.out Pa zR);replace da:=zM (Kb Xb NQ) da (Ld Pa Fa.out.size);replace Fa:=zH (re Fa.out Pa);refine (Np.out wF df.out).mono ?_
     rotate_left
     ·intro w_;go_simp <;> rfl
     rintro e wC ⟨vs,rfl,dp,ra⟩;clear Pa;refine ⟨_,Jf Xb wF wC,rfl,Ah ra,om Fa.out ra,?_⟩;replace da:=zM (Kb Xb NQ) da (Ri Fa.out (Ah ra));replace Fa:=zH (wk Fa.out (Ah ra) (om Fa.out ra));refine zPU ?_;obtain ⟨Bx,dx,rfl,-⟩:=mc dp;have HW:=zH (Yf dp xg.out);have bg:=zH (pa oc.out ra);have xI:=zH (pa df.out ra);have EB:=zH (Jo.out.below ra Jo.out.lt);have Hj:=zH (uc.out.below ra uc.out.lt);have Jp:=zH (Za Ug.out (Yb ra));have EI:=zH (yb Ho.out ra zR);have iC:∀ b,Jf Xb wF wC b -> wr.1.size <= b:=fun b hb=>hb.elim (fun e=>e.elim) fun e=>Cb df.out.size e.1
     generalize Jf Xb wF wC=V3 at Fa iC |-;have nv0:¬V3 w.1.size:=fun e=>by have:=iC _ e;have:=Vd.out;omega
     clear dp ra oc df Jo uc Ug Ho;refine Ig ?_;refine Hv (f:=?_) (vals:=?_) rfl rfl rfl Fa ?_ (fun wF Pa=>?_)
     rotate_left 3
     replace bg:=zH (pa bg.out Pa);replace xI:=zH (pa xI.out Pa);replace EB:=zH (EB.out.below Pa EB.out.lt);replace Hj:=zH (Hj.out.below Pa Hj.out.lt);replace Jp:=zH (Za Jp.out (Yb Pa));replace EI:=zH (yb EI.out Pa zR);replace HW:=zH (Sa Pa HW.out);replace da:=zM (Kb Xb NQ) da (Ld Pa Fa.out.size);replace Fa:=zH (re Fa.out Pa);refine (iG.out KW A1 n1 c1 Bx _ dx wF Jp.out HW.out).mono ?_
     rotate_left
     ·intro w_;go_simp <;> rfl
     rintro e wD ⟨A2,n2,c2,rfl,hd4,ra⟩;clear Pa;refine ⟨_,Jf V3 wF wD,rfl,Ah ra,om Fa.out ra,?_⟩;replace da:=zM (Kb Xb NQ) da (Ri Fa.out (Ah ra));replace Fa:=zH (wk Fa.out (Ah ra) (om Fa.out ra));refine zPU ?_;obtain ⟨KY,Vu⟩:∃ KY:Nat -> Prop,KY=fun b=>(KW b \/ wF.1.size <= b) /\ b<wD.1.size:=⟨_,rfl⟩
     have fy:=zk hd4;rw [<- Vu] at fy;have tn:=zH fy;have Rh:=zH (pa bg.out ra);have tz:=zH (EB.out.below ra EB.out.lt);have ji:=zH (Hj.out.below ra Hj.out.lt);have Rv:=zH (yb EI.out ra zR);have gG:=zH (show wr.1.size <= wF.1.size from xI.out.size)
     have AJ:∀ b,KY b -> b<wr.1.size \/ Jf V3 wF wD b:=fun b hb=>by
      rw [Vu] at hb;exact hb.1.elim (fun e=>.inl (lG.out b e).2) fun e=>.inr (.inr ⟨e,hb.2⟩)
     have lN:=zH (show ∀ b,KY b -> (K b /\ b<w.1.size) \/ w.1.size+2 <= b from fun b hb=>by
      rw [Vu] at hb;exact hb.1.elim (fun e=>Vl.out b (lG.out b e).1) fun e=>.inr (by have:=gG.out;have:=Vd.out;omega))
     have dT:=zH (show ∀ b,u10.ownBlock=vD b -> ¬KY b from fun b hb e=>by
      rw [Vu] at e;exact e.1.elim (fun e=>(Sv.out b hb).2 (lG.out b e).1) fun e=>by have:=(Sv.out b hb).1;have:=gG.out;omega)
     have eT:=zH (show ∀ b,KY b -> b<wD.1.size by rw [Vu];exact fun b hb=>hb.2)
     generalize Jf V3 wF wD=V4 at Fa AJ |-;clear hd4 fy ra bg xI EB Hj Jp EI Vu HW;refine Ig ?_;refine Qs [(vD 13,14)] rfl Fa (fun xk wE Db sf=>?_)
     have rJ:=sf.blk _ (.head _) rfl;clear sf;unfold jl il;simp only [List.foldl];dsimp only at rJ
     generalize xk 14=g14 at rJ  |-;obtain ⟨dF,lM,JH⟩:=rJ;replace Rh:=zH (pa Rh.out Db);replace tz:=zH (tz.out.below Db tz.out.lt);replace ji:=zH (ji.out.below Db ji.out.lt);replace tn:=zH (Za tn.out (Yb Db));replace Rv:=zH (yb Rv.out Db zR);replace da:=zM (Kb Xb NQ) da (Ld Db Fa.out.size);replace Fa:=zH (re Fa.out Db)
     refine zPU ?_
     have LDE:=zH Db.size;have qW:¬KY g14:=fun e=>(AJ _ e).elim (fun h=>by have:=Vd.out;omega) JH
     have Ez:=dF.cell;have f14:=dF.frozen;clear Db;refine Gm ?_;refine Bd (Kb Xb NQ) rfl rfl rfl ?_;go_simp;refine ⟨Ld (Dy lM [.bool On.ideal,vd vq On.st,vd vt On.dr,ve A2 n2 c2,ve vB 0 0,ve vB 0 0] 0 _) zR,?_⟩
     refine zPU ?_
     refine Ec ?_;have bG:=ug [.bool On.ideal,vd vq On.st,vd vt On.dr,ve A2 n2 c2,ve vB 0 0,ve vB 0 0] dF rfl;have xo:=(If (g:=g14) (b:=w.1.size) zO [.bool On.ideal,vd vq On.st,vd vt On.dr,ve A2 n2 c2,ve vB 0 0,ve vB 0 0] 0 wE).trans tz.out;have xr:=(If (g:=g14) (b:=w.1.size+1) zO [.bool On.ideal,vd vq On.st,vd vt On.dr,ve A2 n2 c2,ve vB 0 0,ve vB 0 0] 0 wE).trans ji.out;have xb:=ak (xs:=[.bool On.ideal,vd vq On.st,vd vt On.dr,ve A2 n2 c2,ve vB 0 0,ve vB 0 0]) (g:=g14) Rh.out zO;have xd:=Za tn.out (sj (g:=g14) qW [.bool On.ideal,vd vq On.st,vd vt On.dr,ve A2 n2 c2,ve vB 0 0,ve vB 0 0] wE);have xw:=Ge Rv.out (u:=Cc wE g14 [.bool On.ideal,vd vq On.st,vd vt On.dr,ve A2 n2 c2,ve vB 0 0,ve vB 0 0] 0) fun b hb=>If (fun e=>by have:=(Sv.out b hb).1;have:=Vd.out;omega) _ 0 wE
     have rL:wE.1.size <= (Cc wE g14 [.bool On.ideal,vd vq On.st,vd vt On.dr,ve A2 n2 c2,ve vB 0 0,ve vB 0 0] 0).1.size:=by simp [Cc,vE]
     simp only [Cc,yf,Nat.reduceAdd] at bG xo xr xb xd xw rL;generalize vE (vE (vE (vE (vE (vE (wE) _ _) _ _) _ _) _ _) _ _) _ _=w5 at bG xo xr xb xd xw rL |-;have cG:Blk w5 g14 _ _:=bG;have yo:Blk w5 w.1.size _ _:=xo;have yr:Blk w5 (w.1.size+1) _ _:=xr;clear bG xo xr Ez f14 dF Rh tz ji tn Rv da co AJ;obtain ⟨N5,Rk⟩:=zEX (w5.1.size);have l14:g14<N5:=by rw [Rk];exact cG.lt
     have l50:w.1.size<N5:=by rw [Rk];exact yo.lt
     have l51:w.1.size+1<N5:=by rw [Rk];exact yr.lt
     obtain ⟨VO,jC⟩:∃ VO:Nat -> Prop,VO=fun b=>u10.ownBlock=vD b:=⟨_,rfl⟩
     obtain ⟨VR,pE⟩:∃ VR:Nat -> Prop,VR=fun b=>u10.ownBlock=vD b \/ b=w.1.size:=⟨_,rfl⟩
     have vr14:¬VR g14:=by rw [pE];exact fun e=>e.elim (fun e=>by have:=(Sv.out _ e).1;have:=Vd.out;omega) fun e=>zO
     have HVR:=zH (show VR w.1.size by rw [pE];exact .inr rfl)
     have Hu:=zH (show (∀ b,VO b -> VR b) /\ (∀ b,VO b -> b<wr.1.size /\ w.1.size+2 <= b) /\ ∀ b,u10.ownBlock=vD b -> VO b by
      rw [jC,pE];exact ⟨fun b hb=>.inl hb,fun b hb=>⟨(Sv.out b hb).1,(xw.lt b hb).1⟩,fun b hb=>hb⟩)
     have HWR:=zH (show wr.1.size <= w5.1.size by have:=LDE.out;have:=gG.out;have:=Vd.out;omega)
     have Xy:=zH (show ∀ b,KY b -> b<w5.1.size /\ ¬VO b from fun b hb=>⟨by have:=eT.out b hb;have:=LDE.out;omega,by rw [jC];exact fun e=>dT.out b e hb⟩)
     have az:=zH Rk;have Ez:=cG.cell;have K14:=zH cG;have KO5:=zH yo;have KR5:=zH yr;have Ip:=zH xb;have Ry:=zH xd;have HO5:=zH xw;clear Rk jC pE cG yo yr xb xd xw rL;go_upto_region 13 with fail
     refine Ps (VR) (VO) (N5) [2,3,6] [0,1,4,2,3] [] [5,6] zK (Kq _) zK ?_;refine Rs ?_;intro Wc Ca da;have Fa:Hid (Qh VR N5 VO Wc):=zH (by rw [Ca.out,az.out];exact ⟨zR,fun b hb=>Be (Hu.out.2.1 b hb).1 HWR.out,fun b _ h=>Hu.out.1 b h⟩)
     have ng:=zH (show vz w.1.size w Wc by rw [Ca.out];exact Ip.out.drew)
     have jk:=zH (show Blk Wc _ _ _ by rw [Ca.out];exact KO5.out.drew)
     have Eh:=zH (show Blk Wc _ _ _ by rw [Ca.out];exact KR5.out.drew)
     have Hm:=zH (Za Ry.out (show Od _ _ Wc by rw [Ca.out];exact Oo))
     have Ys:=zH (show Wc.ownsRow _ _ _ _ _ _ by rw [Ca.out];exact Ge HO5.out fun _ _=>rfl)
     clear Ca Ip KO5 KR5 Ry HO5 K14;refine Ig ?_;refine cN rfl rfl rfl Fa (fun wF Pa=>?_)
     replace ng:=zH (pa ng.out Pa);replace jk:=zH (jk.out.below Pa jk.out.lt);replace Eh:=zH (Eh.out.below Pa Eh.out.lt);replace Hm:=zH (Za Hm.out (Yb Pa));replace Ys:=zH (yb Ys.out Pa zR);replace da:=zM (Kb VR N5) da (Ld Pa Fa.out.size);replace Fa:=zH (re Fa.out Pa);have ja:=zA wF (.cells #[vd vq xi] 22);have Ka:=mh wF (vd vq xi) 22;refine ⟨ve (vD ⟨wF.1.size,0,vB⟩) 1 1,wF.alloc (.cells #[vd vq xi] 22),Jf VO wF (wF.alloc (.cells #[vd vq xi] 22)),by go_simp <;> rfl,Ah ja,om Fa.out ja,?_⟩
     have Ur:=Fa.out.size;replace ng:=zH (pa ng.out ja);replace jk:=zH (jk.out.below ja jk.out.lt);replace Eh:=zH (Eh.out.below ja Eh.out.lt);replace Hm:=zH (Za Hm.out (Yb ja));replace Ys:=zH (yb Ys.out ja zR);replace da:=zM (Kb VR N5) da (Ri Fa.out (Ah ja));replace Fa:=zH (wk Fa.out (Ah ja) (om Fa.out ja))
     refine zPU ?_
     generalize wF.alloc _=wP at ja Ka ng jk Eh Hm Ys da Fa |-;have Qj:∀ b,Jf VO wF wP b -> VO b \/ N5 <= b:=fun b hb=>hb.elim .inl fun e=>.inr (Cb Ur e.1)
     have Vq:∀ b,u10.ownBlock=vD b -> Jf VO wF wP b:=fun b hb=>.inl (Hu.out.2.2 b hb)
     have yk:w.1.size+2 <= wP.1.size:=Eh.out.lt;have hPG:N5 <= wP.1.size:=Cb Ur ja.size;generalize Jf VO wF wP=V1 at Fa Qj Vq |-;generalize wF.1.size=gA at Ka Ur |-;have oa:=Ys.out;clear ja Pa Ys;refine AP rfl rfl rfl _ _ rfl (WD) rfl rfl Fa (oa) (Ka) (Gf [xi]) zO (by first | exact zR | omega) (Vq) (fun wF v' w' Pa Va Ze Zp=>?_)
     replace ng:=zH (pa ng.out Pa);replace jk:=zH (jk.out.below Pa jk.out.lt);replace Eh:=zH (Eh.out.below Pa Eh.out.lt);replace Hm:=zH (Za Hm.out (Yb Pa));replace da:=zM (Kb VR N5) da (Ld Pa Fa.out.size);replace Fa:=zH (re Fa.out Pa);replace da:=zM (Kb VR N5) da (Ri Fa.out Ze);replace Fa:=zH (wk Fa.out Ze Zp)
     refine zPU ?_
     have nVo:¬V1 w.1.size:=fun e=>(Qj _ e).elim (fun e=>by have:=(Hu.out.2.1 _ e).2;omega) fun e=>zO
     have nVr:¬V1 (w.1.size+1):=fun e=>(Qj _ e).elim (fun e=>by have:=(Hu.out.2.1 _ e).2;omega) fun e=>zO
     have tx:=zH (JL ng.out Ze fun b hb=>(Qj b hb).elim (fun e=>by have:=(Hu.out.2.1 _ e).2;omega) fun e=>zO)
     have dt:=zH (jk.out.moved Ze nVo);have uz:=zH (Eh.out.moved Ze nVr);have kD:=zH (Za Hm.out (IL Ze fun b hb e=>(Qj b e).elim (Xy.out b hb).2 fun e=>by have:=(Xy.out b hb).1;have:=az.out;omega))
     have HKO:=zH (show ∀ b,v'.ownBlock=vD b -> ¬KY b from fun b hb hk=>(Ze.foot b (.inr hb)).elim (fun e=>(Qj b e).elim (Xy.out b hk).2 fun e=>by have:=(Xy.out b hk).1;have:=az.out;omega) fun e=>by have:=(Xy.out b hk).1;have:=az.out;have:=Pa.size;omega)
     have dz:=zH (show _ from Ii (b:=[xi]) Va QI.out)
     obtain ⟨Av,cv,rfl,-⟩:=mc Va;obtain ⟨V2,oE⟩:∃ V2:Nat -> Prop,V2=fun b=>V1 b \/ (ve Av (i+1) cv).ownBlock=vD b:=⟨_,rfl⟩
     rw [<- oE] at Fa Ze |-;clear oE oa Ka Va Vq yk ng jk Eh Hm Ze Zp Pa Qj;refine Ig ?_;refine Qs [] rfl Fa (fun xk wE Db sf=>?_)
     clear sf;unfold jl
     try simp only [List.foldl]
     replace tx:=zH (pa tx.out Db);replace dt:=zH (dt.out.below Db dt.out.lt);replace uz:=zH (uz.out.below Db uz.out.lt);replace kD:=zH (Za kD.out (Yb Db));replace dz:=zH (yb dz.out Db zR);replace da:=zM (Kb VR N5) da (Ld Db Fa.out.size);replace Fa:=zH (re Fa.out Db)
     refine zPU ?_
     have co:=dt.out.cell;have fo:=dt.out.frozen;clear Db;refine Gm ?_;refine Bd (Kb VR N5) rfl rfl rfl ?_;go_simp;refine ⟨YB HVR.out [.bool On.ideal,vd vq On.st,vd vt On.dr,ve A2 n2 c2,ve vB 0 0,ve vB 0 0] _,?_⟩
     refine zPU ?_
     refine Ec ?_;have zo:=ug [.bool On.ideal,vd vq On.st,vd vt On.dr,ve A2 n2 c2,ve vB 0 0,ve vB 0 0] dt.out rfl;have zr:=(If (g:=w.1.size) (b:=w.1.size+1) zO [.bool On.ideal,vd vq On.st,vd vt On.dr,ve A2 n2 c2,ve vB 0 0,ve vB 0 0] 0 wE).trans uz.out;have zb:=ak (xs:=[.bool On.ideal,vd vq On.st,vd vt On.dr,ve A2 n2 c2,ve vB 0 0,ve vB 0 0]) (g:=w.1.size) tx.out zR;have zd:=Za kD.out (sj (g:=w.1.size) (fun e=>(lN.out _ e).elim (fun e=>by have:=e.2;omega) fun e=>zO) [.bool On.ideal,vd vq On.st,vd vt On.dr,ve A2 n2 c2,ve vB 0 0,ve vB 0 0] wE)
     have zw:=Ge dz.out (u:=Cc wE w.1.size [.bool On.ideal,vd vq On.st,vd vt On.dr,ve A2 n2 c2,ve vB 0 0,ve vB 0 0] 0) fun b hb=>If (fun e=>by have:=(dz.out.lt b hb).1;omega) _ 0 wE
     simp only [Cc,yf,Nat.reduceAdd] at zo zr zb zd zw;generalize vE (vE (vE (vE (vE (vE (wE) _ _) _ _) _ _) _ _) _ _) _ _=w9 at zo zr zb zd zw |-;have DN:=zH (And.intro zo (And.intro zr (And.intro zb (And.intro zd zw))));clear zo zr zb zd zw co fo da Ez tx dt uz kD dz Fa;go_wp2
     go_roundw
     case rel =>
      obtain ⟨zo,zr,zb,zd,zw⟩:=DN.out;refine ⟨i+1,A2,n2,c2,KY,zR,Pc.out,by go_num,zw,?_,zr,?_,lN,HKO,zb⟩
      ·rw [<- HOn.out];exact zo
      ·rw [<- HOn.out];exact zd
     case measure=>have:=Pc.out;simp [intOf];omega
    ·obtain rfl:m=i:=by omega
     obtain ⟨Al,cl,rfl,-⟩:=mc oa;obtain ⟨O1,El⟩:=zEX (kd O 16 qs);rw [HQL.out,<- El] at ko Ui;have bz:=zH El;obtain ⟨L1,hL1⟩:=zEX ((List.range m).map f);rw [<- hL1] at oa Nv;have ij:=zH (show L1.length=2^d by rw [hL1];simp;rw [Bn.out];exact HD.out.2)
     have iT:=zH hL1;have Gj:=zH (show jm O1 (k+m) by rw [El,<- HQL.out];exact HOk.out m zR)
     have KO:=zH ko;have KR:=zH kr;have HB:=zH ba;have Cu:=zH Ui;have nD:=zH oa;clear El hL1 ta hi ko kr ba Ui oa Vy HSA HQG zi HF Fq HMS Dq HES;have hwr2:w.1.size+2 <= wr.1.size:=KR.out.lt;go_wp2_with fail
     have ja:=zA wr (.cells #[ve Al m cl] 28);have hout:=zER wr (ve Al m cl) 28 (w.1.size+2) hwr2;have nV:=nD.out.lt;have kO:=KO.out.below ja KO.out.lt;have kR:=KR.out.below ja KR.out.lt;have hB:=pa HB.out ja;have hD:=Za (zk Cu.out) (Yb ja);have hW:=yb nD.out ja zR;have ET:bY w K d O1 L1 (ve Al m cl) (ve (vD ⟨wr.1.size,0,vB⟩) 1 1) (wr.alloc (.cells #[ve Al m cl] 28)):=by
      have ue:m=2^d:=by rw [Bn.out];exact HD.out.2
      refine ⟨d,[],O1,L1,A1,n1,c1,_,k+m,[ve Al m cl],⟨ij.out,Nv.out,by rw [<- ue];exact hW,fun b hb e=>?_⟩,⟨Gj.out,by rw [<- ue];have:=pB.out;omega⟩,⟨rfl,rfl,by simpa using HD.out.1⟩,⟨hout,zDd (W9 hW Nv.out zR fun b hb e=>?_)⟩,⟨kO,kR⟩,⟨hD,fun b hb=>Vl.out b hb.1,fun b hb e=>?_⟩,hB⟩
      ·have h1:=(nV b hb).2
       have h2:wr.1.size=b:=Pb e;omega
      ·have h1:=(nV b hb).2
       have h2:b=wr.1.size:=Pb e;omega
      ·have h2:wr.1.size=b:=Pb hb
       have:=e.2;omega
     generalize wr.alloc _=w6 at ET |-;clear ja hout nV kO kR hB hD hW KO KR HB Cu nD;go_loopw [10,14] (fun lv vs wq=>bY w K d O1 L1 lv vs wq) (fun lv _ _=>sLen lv)
     case atStart=>exact ET
     case round =>
      clear ET;obtain ⟨j,ls,Oj,lj,A2,n2,c2,KX2,M,cs,⟨iy,ao,fq,Gw⟩,⟨GJ,hM⟩,⟨mE,nE,DE⟩,⟨dp,Ra⟩,⟨ko,kr⟩,⟨Ui,hX1,hX2⟩,ba⟩:=hrel;obtain ⟨Av,cv,rfl,-⟩:=mc fq;rcases Nu j with hj0 | hj0
      ·subst hj0
       rw [Nat.pow_zero] at fq iy;have HRX:=zH (show Hd (fun b=>w.1.size+2 <= b) wr (fun u=>Ye u [u14] (ls++[lj])) from fun u a=>vJ (cO Ra a.size fun b h1 h2 _=>a.block b h1 h2) (Ge dp fun b hb=>a.block b (dp.lt b hb).1 (dp.lt b hb).2))
       obtain ⟨Ao,co,rfl,-⟩:=mc dp;have HT1:=zH (show Ls d O1 L1=ls++[lj] from mE)
       have zx:=zH (show TF d O1 L1=Oj from nE)
       have Iu:=zH hX1;have Cu:=zH Ui;have kx:=ko;have OE:¬KX2 (w.1.size+1):=fun e=>(hX1 _ e).elim (fun e=>by have:=e.2;omega) fun e=>zO
       clear iy ao fq Gw GJ hM mE nE DE dp Ra ko Ui hX1 hX2;rw [Nat.pow_zero];go_wp2_with fail
       have Sq:=kx.cell;have Gr:=kx.lt;have Hr:w.1.size≠w.1.size+1:=by omega
       refine Yc (Kj (w.1.size+1)) [3] [0,1,2,3,4] zK zK ?_;refine Td (Gd (w.1.size+1)) ?_;intro Wc Ca da;have Lg:=zH (show Blk Wc _ _ _ by rw [Ca.out];exact kr.drew)
       have df:=zH (show vz w.1.size w Wc by rw [Ca.out];exact ba.drew)
       have Pq:=Lg.out.cell;have Uq:=Lg.out.frozen;replace Cu:=zH (Za Cu.out (show Od _ _ Wc by rw [Ca.out];exact Oo))
       replace HRX:=zH (Za HRX.out (show Od _ _ Wc by rw [Ca.out];exact Oo))
       clear Ca;refine Lk ?_;refine Bd (Gd (w.1.size+1)) rfl rfl rfl ?_;go_simp;refine ⟨UA [.bool Oj.ideal,vd vq Oj.st,vd vt Oj.dr,ve A2 n2 c2,ve vB 0 0,ve vB 0 0] 0 _,?_⟩
       refine zPU ?_
       have kf:=ug [.bool Oj.ideal,vd vq Oj.st,vd vt Oj.dr,ve A2 n2 c2,ve vB 0 0,ve vB 0 0] Lg.out rfl;have Bc:=ak (xs:=[.bool Oj.ideal,vd vq Oj.st,vd vt Oj.dr,ve A2 n2 c2,ve vB 0 0,ve vB 0 0]) (g:=w.1.size+1) df.out zO;have Si:∀ K:Nat -> Prop,¬K (w.1.size+1) -> Od K Wc (Cc Wc (w.1.size+1) [.bool Oj.ideal,vd vq Oj.st,vd vt Oj.dr,ve A2 n2 c2,ve vB 0 0,ve vB 0 0] 0):=fun K h=>sj h _ _
       simp only [Cc,yf,Nat.reduceAdd] at kf Bc Si;generalize vE (vE (vE (vE (vE (vE (Wc) _ _) _ _) _ _) _ _) _ _) _ _=wf at kf Bc Si |-;have cf:=kf.cell;clear Sq Gr Hr Pq Uq da;have da:=(Gd (w.1.size+1)).refl wf;refine Lk ?_;refine Ec ?_;clear da;have Zq:=Za Cu.out (Si _ OE);have nA:=Za HRX.out (Si _ zO);go_wp2;refine Tc (by simp [results,results42,go_sem,cf];rfl) rfl ⟨Ao,ls.length+1,co,A2,n2,c2,?_,?_,?_,Bc⟩
       ·rw [<- bz.out,<- iT.out,zx.out]
       ·rw [<- bz.out,<- iT.out,HT1.out]
        exact Xp nA fun b hb=>zO
       ·rw [<- bz.out,<- iT.out,zx.out]
        exact Xp Zq fun b hb=>(Iu.out b hb).elim (fun e=>.inl e.1) fun e=>.inr zO
      ·obtain ⟨j',rfl⟩:∃ j',j=j'+1:=⟨j-1,zO⟩
       obtain ⟨nh,ly⟩:=zEX (2^j');obtain ⟨nl,qv⟩:=zEX (2^(j'+1));have Tf:nl=2*nh:=by rw [qv,ly,qj,Jj]
       have hnh0:0<nh:=by rw [ly];exact Nat.two_pow_pos j'
       have hnlm:nl <= 102048:=by rw [<- qv] at hM;omega
       rw [<- qv] at iy fq hM |-;obtain ⟨ps,Uj⟩:=zEX (tp lj);have Og:ps.length=nh:=by rw [Uj,rR,iy,Tf];omega
       obtain ⟨gf,hgf⟩:∃ gf:Nat -> Nat,gf=fun i=>Pe (kd Oj 17 (ps.take i)) 17 (ps.getD i []):=⟨_,rfl⟩
       have HGF:=zH (fun i=>show gf i=Pe (kd Oj 17 (ps.take i)) 17 (ps.getD i []) by rw [hgf])
       have HPG:=zH (show ∀ i,i<nh -> ps.getD i []=[lj.getD (2*i) 0,lj.getD (2*i+1) 0] from fun i hi=>by rw [Uj];exact zFq lj i (by rw [iy,Tf];omega))
       have iz:=zH (fun i (hi:i <= nh)=>ZO GJ 17 ps i zO)
       have Xl:=zH (show ∀ i,i<nh -> kd Oj 17 (ps.take (i+1))=td (kd Oj 17 (ps.take i)) 17 (ps.getD i []) from fun i hi=>WT Oj 17 ps i zO)
       have HPV:=zH (show Mj Oj 17 ps=(List.range nh).map gf by unfold Mj;rw [Og,hgf])
       have HPT:=zH (show ps.take nh=ps from GD zO)
       have HPH:=zH (fun i (hi:i<nh) KX A1 n1 c1 Bx mx dx w1 (Xm:Hd KX w1 fun u=>Sd u [ve A1 n1 c1] (kd Oj 17 (ps.take i)).qs) (hx:RWd w1 [ve Bx mx dx] (ps.getD i [])) =>
        MQ (K:=KX) (kd Oj 17 (ps.take i)) (iz.out i (Nat.le_of_lt hi)).fair A1 Bx n1 c1 mx dx 17 (ps.getD i []) w1 Xm hx zD (by rw [HPG.out i hi];simp) (iz.out i (Nat.le_of_lt hi)).st (ti (iz.out i (Nat.le_of_lt hi)).le zO) (by rw [HPG.out i hi];simp))
       unfold mg at HPH;obtain ⟨wL,hwL⟩:=zEX (wr);rw [<- hwL] at fq dp Ra ko kr Ui ba;have gl1:decide ((1:Int)<nl)=true:=Qb zO;obtain ⟨P,hP⟩:∃ P:Nat -> Prop,P=fun b=>w.1.size+2 <= b /\ b<wL.1.size:=⟨_,rfl⟩
       have hdL:=zk Ui;have HLV:=zH fq;have HVS:=zH dp;have Uy:=zH Ra;have HP:=zH hP;have HSTA:=zH (And.intro GJ (And.intro hM (And.intro mE (And.intro nE DE))));have HLO:=zH Gw;have MP:=zH ao;have ik:=zH hX2;have Iu:=zH hX1;have HNH:=zH (And.intro ly (And.intro Tf iy));have HPSD:=zH Uj;have LL2:=zH (show w.1.size+2 <= wL.1.size from kr.lt)
       clear Tf Gw GJ hM mE nE DE Ra ly qv Uj Og hgf hX1 hX2 hP fq dp iy ao;rw [hwL] at ko kr ba;go_wp2_with fail
       rw [<- hwL] at ko kr ba;rw [<- hwL];clear gl1;go_loopw [15,16] (fun ab y wq=>∃ (i:Nat) (A':Option vx) (n' c':Nat) (KY:Nat -> Prop),i <= nh /\ y=vd vt ((2*i:Nat):Int) /\ wq.ownsRow wL.1.size 22 1 ab i (Qa ((List.range i).map gf)) /\
        Blk wq w.1.size 53 #[.bool (kd Oj 17 (ps.take i)).ideal,vd vq ((kd Oj 17 (ps.take i)).st:Int),vd vt ((kd Oj 17 (ps.take i)).dr:Int),ve A' n' c',ve vB 0 0,ve vB 0 0] /\ Blk wq (w.1.size+1) 53 #[.bool false,vd vq 0,vd vt 0,ve vB 0 0,ve vB 0 0,ve vB 0 0] /\
        Hd KY wq (fun u=>Sd u [ve A' n' c'] (kd Oj 17 (ps.take i)).qs) /\ Hid (∀ b,KY b -> (K b /\ b<w.1.size) \/ w.1.size+2 <= b) /\ Hid (∀ b,ab.ownBlock=vD b -> ¬KY b) /\ Hid (∀ b,u14.ownBlock=vD b -> ¬KY b) /\ Od P wL wq /\ vz w.1.size w wq) (fun _ y _=>2*nh-(intOf y).toNat)
       case atStart =>
        refine ⟨0,A2,n2,c2,_,Rb _,rfl,⟨rfl, .inl ⟨rfl,rfl⟩⟩,ko,kr,hdL,zH (fun b hb=>Iu.out b hb.1),zH (fun b (hb:(ve vB 0 0).ownBlock=vD b)=>nomatch hb),zH (fun b hb e=>ik.out b hb e.1),QT,ba⟩
       case round =>
        clear ko kr Ui hdL ba hwL;obtain ⟨i,A3,n3,c3,KX3,hi,rfl,oa,ko,kr,Ui,Vl,jG,HK3,Wr,ba⟩:=hrel;by_cases ta:i<nh
        ·obtain ⟨ia,Xo⟩:=zEX (2*i)
         obtain ⟨ib,Bw⟩:=zEX (2*i+1);obtain ⟨-,Tf,iy⟩:=HNH.out;have g1:(0:Int)<=ia:=by omega
         have g2:(ia:Int)<nl:=by omega
         have g3:(0:Int)<=ib:=by omega
         have g4:(ib:Int)<nl:=by omega
         have e1:vt.wrap ((ia:Int)+1)=(ib:Int):=by rw [pj];omega
         have e1':wrap64 ((ia:Int)+1)=(ib:Int):=by unfold wrap64;omega
         have hi6:i <= 102048:=by omega
         obtain ⟨Oi,DJ⟩:=zEX (kd Oj 17 (ps.take i));obtain ⟨On,EJ⟩:=zEX (kd Oj 17 (ps.take (i+1)));obtain ⟨xi,uv⟩:=zEX (gf i);have iG:=zH (fun KX A1 n1 c1 Bx mx dx w1 Xm hx=>HPH.out i ta KX A1 n1 c1 Bx mx dx w1 Xm hx)
         rw [<- Xl.out i ta,<- HGF.out i,<- DJ,<- EJ,<- uv,HPG.out i ta,<- Bw,<- Xo] at iG;rw [<- DJ] at ko Ui;have hlvq:=Ge HLV.out (u:=wr) fun b hb=>Wr.block b (by rw [HP.out];exact HLV.out.lt b hb) (HLV.out.lt b hb).2
         obtain ⟨A4,c4,eL,-,-,hrL,-⟩:=mc hlvq
         injection eL with eL eL2 eL3
         subst eL eL3;rw [<- iy] at hrL;obtain ⟨bL,qL,eA,Vm,ZG⟩:=Ve hrL (show ia<lj.length by omega)
         obtain ⟨bL2,qL2,Sm,-,VU⟩:=Ve hrL (show ib<lj.length by omega)
         rw [eA] at Sm
         injection Sm with Sm
         injection Sm with e3 e4
         subst e3 e4;obtain ⟨za,hza⟩:=zEX (lj.getD ia 0);obtain ⟨zb,vK⟩:=zEX (lj.getD ib 0);have xg:=zH (show ∀ x∈[za,zb],x<18446744073709551616 from sh (by rw [hza];exact qF MP.out zO) (sh (by rw [vK];exact qF MP.out zO) fun _ h=>nomatch h))
         rw [<- hza] at ZG iG;rw [<- vK] at VU iG;obtain ⟨KW,CJ⟩:∃ KW:Nat -> Prop,KW=fun b=>KX3 b /\ b<wr.1.size:=⟨_,rfl⟩
         have RJ:=zk Ui;rw [<- CJ] at RJ;have lG:=zH (show ∀ b,KW b -> KX3 b /\ b<wr.1.size by rw [CJ];exact fun b hb=>hb)
         have Sv:=zH (show ∀ b,u15.ownBlock=vD b -> b<wr.1.size /\ ¬KX3 b from fun b hb=>⟨(oa.lt b hb).2,jG.out b hb⟩)
         have HAGH:=zH (show Hd P wr (fun u=>Od P wL u) from fun u a=>Rx Wr a)
         have Jm:=zH (show (∀ b,P b -> b<wL.1.size) /\ wL.1.size <= wr.1.size /\ (∀ b,P b -> w.1.size+2 <= b) from ⟨by rw [HP.out];exact fun b hb=>hb.2,Wr.size,by rw [HP.out];exact fun b hb=>hb.1⟩)
         have HV14:=zH (show ∀ b,u14.ownBlock=vD b -> b<wr.1.size from fun b hb=>Be (HVS.out.lt b hb).2 Wr.size)
         have QI:=zH (show (List.range i).map gf++[xi]=(List.range (i+1)).map gf by rw [uv];exact JC gf i)
         have HIA:=zH (And.intro Xo ta);have HOn:=zH EJ;rw [<- Xo];subst eA;obtain ⟨NQ,Dd⟩:=zEX (wr.1.size);have lq0:w.1.size<NQ:=by rw [Dd];exact ko.lt
         have lq1:w.1.size+1<NQ:=by rw [Dd];exact kr.lt
         have lqa:bL<NQ:=by rw [Dd];exact Vm
         have nx0:¬Xb w.1.size:=id;have nxa:¬Xb bL:=id;have Vd:=zH Dd;have co:=ko.cell;have KO:=zH ko;have KR:=zH kr;have HB:=zH ba;have Cu:=zH RJ;have nD:=zH oa;clear CJ hlvq hrL hza vK ta DJ EJ uv Dd ko kr ba Ui RJ oa Vm hi Xo Bw Wr Tf iy;go_wp2_with fail
         refine Ps (Xb) (Xb) (NQ) [10,11,17] [0,1,2,3,4,5,6,7,8,9,10,11,12,13,14] [(15,53,#[.bool false,vd vq 0,vd vt 0,ve vB 0 0,ve vB 0 0,ve vB 0 0])] [16,17] zK (ft.2 ⟨⟨_,rfl,rfl,fun a w=>by go_simp <;> rfl⟩,Kq _⟩) zK ?_
         refine Rs ?_;intro Wc Ca da;have Fa:Hid (Qh Xb NQ Xb Wc):=zH (by rw [Ca.out,Vd.out];exact ⟨zR,fun _ h=>h.elim,fun _ _ h=>h⟩)
         have df:=zH (show vz wr.1.size wr Wc by rw [Ca.out];exact (Bb _ _).drew)
         have oc:=zH (show vz w.1.size w Wc by rw [Ca.out];exact HB.out.drew)
         have Jo:=zH (show Blk Wc _ _ _ by rw [Ca.out];exact KO.out.drew)
         have uc:=zH (show Blk Wc _ _ _ by rw [Ca.out];exact KR.out.drew)
         have Ug:=zH (Za Cu.out (show Od _ _ Wc by rw [Ca.out];exact Oo))
         have Hp:=zH (Za HAGH.out (show Od _ _ Wc by rw [Ca.out];exact Oo))
         have Ho:=zH (show Wc.ownsRow _ _ _ _ _ _ by rw [Ca.out];exact Ge nD.out fun _ _=>rfl)
         clear Ca HB KO KR Cu nD HAGH;refine Ig ?_;refine cN rfl rfl rfl Fa (fun wF Pa=>?_)
         replace df:=zH (pa df.out Pa);replace oc:=zH (pa oc.out Pa);replace Jo:=zH (Jo.out.below Pa Jo.out.lt);replace uc:=zH (uc.out.below Pa uc.out.lt);replace Ug:=zH (Za Ug.out (Yb Pa));replace Hp:=zH (Za Hp.out (Yb Pa));replace Ho:=zH (yb Ho.out Pa zR);replace da:=zM (Kb Xb NQ) da (Ld Pa Fa.out.size);replace Fa:=zH (re Fa.out Pa);have ja:=zA wF (.cells #[vd vq za,vd vq zb] 22);have htw:=SR wF za zb;refine ⟨ve (vD ⟨wF.1.size,0,vB⟩) 2 2,wF.alloc (.cells #[vd vq za,vd vq zb] 22),Jf Xb wF (wF.alloc (.cells #[vd vq za,vd vq zb] 22)),by go_simp <;> rfl,Ah ja,om Fa.out ja,?_⟩
         have hV3:=Fa.out.size;replace df:=zH (pa df.out ja);replace oc:=zH (pa oc.out ja);replace Jo:=zH (Jo.out.below ja Jo.out.lt);replace uc:=zH (uc.out.below ja uc.out.lt);replace Ug:=zH (Za Ug.out (Yb ja));replace Hp:=zH (Za Hp.out (Yb ja));replace Ho:=zH (yb Ho.out ja zR);replace da:=zM (Kb Xb NQ) da (Ri Fa.out (Ah ja));replace Fa:=zH (wk Fa.out (Ah ja) (om Fa.out ja))
         refine zPU ?_
         generalize wF.alloc _=wP at ja htw df oc Jo uc Ug Hp Ho da Fa |-;have HW:=zH (Yf htw xg.out);have iC:∀ b,Jf Xb wF wP b -> wr.1.size <= b:=fun b hb=>hb.elim (fun e=>e.elim) fun e=>Cb (zQ Vd.out) e.1
         generalize Jf Xb wF wP=V3 at Fa iC |-;generalize wF.1.size=gA at HW htw ja hV3 |-;clear ja htw Pa hV3;refine Ig ?_;refine Hv (f:=?_) (vals:=?_) rfl rfl rfl Fa ?_ (fun wF Pa=>?_)
         rotate_left 3
         replace df:=zH (pa df.out Pa);replace oc:=zH (pa oc.out Pa);replace Jo:=zH (Jo.out.below Pa Jo.out.lt);replace uc:=zH (uc.out.below Pa uc.out.lt);replace Ug:=zH (Za Ug.out (Yb Pa));replace Hp:=zH (Za Hp.out (Yb Pa));replace Ho:=zH (yb Ho.out Pa zR);replace HW:=zH (Sa Pa HW.out);replace da:=zM (Kb Xb NQ) da (Ld Pa Fa.out.size);replace Fa:=zH (re Fa.out Pa);refine (iG.out KW A3 n3 c3 (vD ⟨gA,0,vB⟩) 2 2 wF Ug.out HW.out).mono ?_
         rotate_left
         ·intro w_;go_simp <;> rfl
         rintro e wD ⟨A5,n5,c5,rfl,hd4,ra⟩;clear Pa;refine ⟨_,Jf V3 wF wD,rfl,Ah ra,om Fa.out ra,?_⟩;replace da:=zM (Kb Xb NQ) da (Ri Fa.out (Ah ra));replace Fa:=zH (wk Fa.out (Ah ra) (om Fa.out ra));refine zPU ?_;have bg:=oc;have xI:=df;have EB:=Jo;have Hj:=uc;have Jp:=Ug;have HA3:=Hp;have EI:=Ho;clear oc df Jo uc Ug Hp Ho;obtain ⟨KY,Vu⟩:∃ KY:Nat -> Prop,KY=fun b=>(KW b \/ wF.1.size <= b) /\ b<wD.1.size:=⟨_,rfl⟩
         have fy:=zk hd4;rw [<- Vu] at fy;have tn:=zH fy;have Rh:=zH (pa bg.out ra);have tz:=zH (EB.out.below ra EB.out.lt);have ji:=zH (Hj.out.below ra Hj.out.lt);have Rv:=zH (yb EI.out ra zR);have HA4:=zH (Za HA3.out (Yb ra));have gG:=zH (show wr.1.size <= wF.1.size from xI.out.size)
         have AJ:∀ b,KY b -> b<wr.1.size \/ Jf V3 wF wD b:=fun b hb=>by
          rw [Vu] at hb;exact hb.1.elim (fun e=>.inl (lG.out b e).2) fun e=>.inr (.inr ⟨e,hb.2⟩)
         have lN:=zH (show ∀ b,KY b -> (K b /\ b<w.1.size) \/ w.1.size+2 <= b from fun b hb=>by
          rw [Vu] at hb;exact hb.1.elim (fun e=>Vl.out b (lG.out b e).1) fun e=>.inr (by have:=gG.out;have:=Vd.out;omega))
         have dT:=zH (show ∀ b,u15.ownBlock=vD b -> ¬KY b from fun b hb e=>by
          rw [Vu] at e;exact e.1.elim (fun e=>(Sv.out b hb).2 (lG.out b e).1) fun e=>by have:=(Sv.out b hb).1;have:=gG.out;omega)
         have HKY4:=zH (show ∀ b,u14.ownBlock=vD b -> ¬KY b from fun b hb e=>by
          rw [Vu] at e;exact e.1.elim (fun e=>HK3.out b hb (lG.out b e).1) fun e=>by have:=HV14.out b hb;have:=gG.out;omega)
         have eT:=zH (show ∀ b,KY b -> b<wD.1.size by rw [Vu];exact fun b hb=>hb.2)
         generalize Jf V3 wF wD=V4 at Fa AJ |-;clear hd4 fy ra bg xI EB Hj Jp EI HA3 Vu HW;refine Ig ?_;refine Qs [(vD 18,15)] rfl Fa (fun xk wE Db sf=>?_)
         have qU:=sf.blk _ (.head _) rfl;clear sf;unfold jl il;simp only [List.foldl];dsimp only at qU
         generalize xk 15=g15 at qU  |-;obtain ⟨k15,hg15,hv15⟩:=qU;replace Rh:=zH (pa Rh.out Db);replace tz:=zH (tz.out.below Db tz.out.lt);replace ji:=zH (ji.out.below Db ji.out.lt);replace tn:=zH (Za tn.out (Yb Db));replace HA4:=zH (Za HA4.out (Yb Db));replace Rv:=zH (yb Rv.out Db zR);replace da:=zM (Kb Xb NQ) da (Ld Db Fa.out.size);replace Fa:=zH (re Fa.out Db)
         refine zPU ?_
         have LDE:=zH Db.size;have qW:¬KY g15:=fun e=>(AJ _ e).elim (fun h=>by have:=Vd.out;omega) hv15
         have nP15:¬P g15:=fun e=>by have:=Jm.out.1 _ e;have:=Jm.out.2.1;have:=Vd.out;omega
         have Ez:=k15.cell;have f14:=k15.frozen;clear Db;refine Gm ?_;refine Bd (Kb Xb NQ) rfl rfl rfl ?_;go_simp;refine ⟨Ld (Dy hg15 [.bool On.ideal,vd vq On.st,vd vt On.dr,ve A5 n5 c5,ve vB 0 0,ve vB 0 0] 0 _) zR,?_⟩
         refine zPU ?_
         refine Ec ?_;have bG:=ug [.bool On.ideal,vd vq On.st,vd vt On.dr,ve A5 n5 c5,ve vB 0 0,ve vB 0 0] k15 rfl;have xo:=(If (g:=g15) (b:=w.1.size) zO [.bool On.ideal,vd vq On.st,vd vt On.dr,ve A5 n5 c5,ve vB 0 0,ve vB 0 0] 0 wE).trans tz.out;have xr:=(If (g:=g15) (b:=w.1.size+1) zO [.bool On.ideal,vd vq On.st,vd vt On.dr,ve A5 n5 c5,ve vB 0 0,ve vB 0 0] 0 wE).trans ji.out;have xb:=ak (xs:=[.bool On.ideal,vd vq On.st,vd vt On.dr,ve A5 n5 c5,ve vB 0 0,ve vB 0 0]) (g:=g15) Rh.out zO;have xd:=Za tn.out (sj (g:=g15) qW [.bool On.ideal,vd vq On.st,vd vt On.dr,ve A5 n5 c5,ve vB 0 0,ve vB 0 0] wE);have xw:=Ge Rv.out (u:=Cc wE g15 [.bool On.ideal,vd vq On.st,vd vt On.dr,ve A5 n5 c5,ve vB 0 0,ve vB 0 0] 0) fun b hb=>If (fun e=>by have:=(Sv.out b hb).1;have:=Vd.out;omega) _ 0 wE
         have xa:=Za HA4.out (sj (g:=g15) nP15 [.bool On.ideal,vd vq On.st,vd vt On.dr,ve A5 n5 c5,ve vB 0 0,ve vB 0 0] wE);have rL:wE.1.size <= (Cc wE g15 [.bool On.ideal,vd vq On.st,vd vt On.dr,ve A5 n5 c5,ve vB 0 0,ve vB 0 0] 0).1.size:=by simp [Cc,vE]
         simp only [Cc,yf,Nat.reduceAdd] at bG xo xr xb xd xw xa rL;generalize vE (vE (vE (vE (vE (vE (wE) _ _) _ _) _ _) _ _) _ _) _ _=w5 at bG xo xr xb xd xw xa rL |-;have cG:Blk w5 g15 _ _:=bG;have yo:Blk w5 w.1.size _ _:=xo;have yr:Blk w5 (w.1.size+1) _ _:=xr;clear bG xo xr Ez f14 k15 Rh tz ji tn Rv HA4 da co AJ;obtain ⟨N5,Rk⟩:=zEX (w5.1.size);have l14:g15<N5:=by rw [Rk];exact cG.lt
         have l50:w.1.size<N5:=by rw [Rk];exact yo.lt
         have l51:w.1.size+1<N5:=by rw [Rk];exact yr.lt
         obtain ⟨VO,jC⟩:∃ VO:Nat -> Prop,VO=fun b=>u15.ownBlock=vD b:=⟨_,rfl⟩
         obtain ⟨VR,pE⟩:∃ VR:Nat -> Prop,VR=fun b=>u15.ownBlock=vD b \/ b=w.1.size:=⟨_,rfl⟩
         have vr14:¬VR g15:=by rw [pE];exact fun e=>e.elim (fun e=>by have:=(Sv.out _ e).1;have:=Vd.out;omega) fun e=>zO
         have HVR:=zH (show VR w.1.size by rw [pE];exact .inr rfl)
         have Hu:=zH (show (∀ b,VO b -> VR b) /\ (∀ b,VO b -> b<wr.1.size /\ wL.1.size <= b) /\ ∀ b,u15.ownBlock=vD b -> VO b by
          rw [jC,pE];exact ⟨fun b hb=>.inl hb,fun b hb=>⟨(Sv.out b hb).1,(xw.lt b hb).1⟩,fun b hb=>hb⟩)
         have HWR:=zH (show wr.1.size <= w5.1.size by have:=LDE.out;have:=gG.out;have:=Vd.out;omega)
         have Xy:=zH (show ∀ b,KY b -> b<w5.1.size /\ ¬VO b from fun b hb=>⟨by have:=eT.out b hb;have:=LDE.out;omega,by rw [jC];exact fun e=>dT.out b e hb⟩)
         have az:=zH Rk;have Ez:=cG.cell;have K14:=zH cG;have KO5:=zH yo;have KR5:=zH yr;have Ip:=zH xb;have Ry:=zH xd;have HO5:=zH xw;have HA5:=zH xa;clear Rk jC pE cG yo yr xb xd xw xa rL;go_upto_region 21 with fail
         refine Ps (VR) (VO) (N5) [2,3,6] [0,1,4,2,3] [] [5,6] zK (Kq _) zK ?_;refine Rs ?_;intro Wc Ca da;have Fa:Hid (Qh VR N5 VO Wc):=zH (by rw [Ca.out,az.out];exact ⟨zR,fun b hb=>Be (Hu.out.2.1 b hb).1 HWR.out,fun b _ h=>Hu.out.1 b h⟩)
         have ng:=zH (show vz w.1.size w Wc by rw [Ca.out];exact Ip.out.drew)
         have jk:=zH (show Blk Wc _ _ _ by rw [Ca.out];exact KO5.out.drew)
         have Eh:=zH (show Blk Wc _ _ _ by rw [Ca.out];exact KR5.out.drew)
         have Hm:=zH (Za Ry.out (show Od _ _ Wc by rw [Ca.out];exact Oo))
         have Ys:=zH (show Wc.ownsRow _ _ _ _ _ _ by rw [Ca.out];exact Ge HO5.out fun _ _=>rfl)
         have gD:=zH (Za HA5.out (show Od _ _ Wc by rw [Ca.out];exact Oo))
         clear Ca Ip KO5 KR5 Ry HO5 HA5 K14;refine Ig ?_;refine cN rfl rfl rfl Fa (fun wF Pa=>?_)
         replace ng:=zH (pa ng.out Pa);replace jk:=zH (jk.out.below Pa jk.out.lt);replace Eh:=zH (Eh.out.below Pa Eh.out.lt);replace Hm:=zH (Za Hm.out (Yb Pa));replace gD:=zH (Za gD.out (Yb Pa));replace Ys:=zH (yb Ys.out Pa zR);replace da:=zM (Kb VR N5) da (Ld Pa Fa.out.size);replace Fa:=zH (re Fa.out Pa);have ja:=zA wF (.cells #[vd vq xi] 22);have Ka:=mh wF (vd vq xi) 22;refine ⟨ve (vD ⟨wF.1.size,0,vB⟩) 1 1,wF.alloc (.cells #[vd vq xi] 22),Jf VO wF (wF.alloc (.cells #[vd vq xi] 22)),by go_simp <;> rfl,Ah ja,om Fa.out ja,?_⟩
         have Ur:=Fa.out.size;replace ng:=zH (pa ng.out ja);replace jk:=zH (jk.out.below ja jk.out.lt);replace Eh:=zH (Eh.out.below ja Eh.out.lt);replace Hm:=zH (Za Hm.out (Yb ja));replace gD:=zH (Za gD.out (Yb ja));replace Ys:=zH (yb Ys.out ja zR);replace da:=zM (Kb VR N5) da (Ri Fa.out (Ah ja));replace Fa:=zH (wk Fa.out (Ah ja) (om Fa.out ja))
         refine zPU ?_
         generalize wF.alloc _=wP at ja Ka ng jk Eh Hm gD Ys da Fa |-;have Qj:∀ b,Jf VO wF wP b -> VO b \/ N5 <= b:=fun b hb=>hb.elim .inl fun e=>.inr (Cb Ur e.1)
         have Vq:∀ b,u15.ownBlock=vD b -> Jf VO wF wP b:=fun b hb=>.inl (Hu.out.2.2 b hb)
         have yk:wL.1.size <= wP.1.size:=Cb Jm.out.2.1 (Cb HWR.out (by rw [<- az.out];exact Cb Ur ja.size))
         have hPG:N5 <= wP.1.size:=Cb Ur ja.size;generalize Jf VO wF wP=V1 at Fa Qj Vq |-;generalize wF.1.size=gA at Ka Ur |-;have oa:=Ys.out;clear ja Pa Ys;refine AP rfl rfl rfl _ _ rfl (WD) rfl rfl Fa (oa) (Ka) (Gf [xi]) zO (by first | exact zR | omega) (Vq) (fun wF v' w' Pa Va Ze Zp=>?_)
         replace ng:=zH (pa ng.out Pa);replace jk:=zH (jk.out.below Pa jk.out.lt);replace Eh:=zH (Eh.out.below Pa Eh.out.lt);replace Hm:=zH (Za Hm.out (Yb Pa));replace gD:=zH (Za gD.out (Yb Pa));replace da:=zM (Kb VR N5) da (Ld Pa Fa.out.size);replace Fa:=zH (re Fa.out Pa);replace da:=zM (Kb VR N5) da (Ri Fa.out Ze);replace Fa:=zH (wk Fa.out Ze Zp)
         refine zPU ?_
         have nVo:¬V1 w.1.size:=fun e=>(Qj _ e).elim (fun e=>by have:=(Hu.out.2.1 _ e).2;have:=LL2.out;omega) fun e=>zO
         have nVr:¬V1 (w.1.size+1):=fun e=>(Qj _ e).elim (fun e=>by have:=(Hu.out.2.1 _ e).2;have:=LL2.out;omega) fun e=>zO
         have tx:=zH (JL ng.out Ze fun b hb=>(Qj b hb).elim (fun e=>by have:=(Hu.out.2.1 _ e).2;have:=LL2.out;omega) fun e=>zO)
         have dt:=zH (jk.out.moved Ze nVo);have uz:=zH (Eh.out.moved Ze nVr);have kD:=zH (Za Hm.out (IL Ze fun b hb e=>(Qj b e).elim (Xy.out b hb).2 fun e=>by have:=(Xy.out b hb).1;have:=az.out;omega))
         have HA7:=zH (Za gD.out (IL Ze fun b hb e=>(Qj b e).elim (fun e=>by have:=(Hu.out.2.1 _ e).2;have:=Jm.out.1 b hb;omega) fun e=>by have:=Jm.out.1 b hb;have:=Jm.out.2.1;have:=HWR.out;have:=az.out;omega))
         have HKO:=zH (show ∀ b,v'.ownBlock=vD b -> ¬KY b from fun b hb hk=>(Ze.foot b (.inr hb)).elim (fun e=>(Qj b e).elim (Xy.out b hk).2 fun e=>by have:=(Xy.out b hk).1;have:=az.out;omega) fun e=>by have:=(Xy.out b hk).1;have:=az.out;have:=Pa.size;omega)
         have dz:=zH (show _ from Ii (b:=[xi]) Va QI.out)
         obtain ⟨Av,cv,rfl,-⟩:=mc Va;obtain ⟨V2,oE⟩:∃ V2:Nat -> Prop,V2=fun b=>V1 b \/ (ve Av (i+1) cv).ownBlock=vD b:=⟨_,rfl⟩
         rw [<- oE] at Fa Ze |-;clear oE oa Ka Va Vq yk ng jk Eh Hm gD Ze Zp Pa Qj;refine Ig ?_;refine Qs [] rfl Fa (fun xk wE Db sf=>?_)
         clear sf;unfold jl
         try simp only [List.foldl]
         replace tx:=zH (pa tx.out Db);replace dt:=zH (dt.out.below Db dt.out.lt);replace uz:=zH (uz.out.below Db uz.out.lt);replace kD:=zH (Za kD.out (Yb Db));replace HA7:=zH (Za HA7.out (Yb Db));replace dz:=zH (yb dz.out Db zR);replace da:=zM (Kb VR N5) da (Ld Db Fa.out.size);replace Fa:=zH (re Fa.out Db)
         refine zPU ?_
         have co:=dt.out.cell;have fo:=dt.out.frozen;clear Db;refine Gm ?_;refine Bd (Kb VR N5) rfl rfl rfl ?_;go_simp;refine ⟨YB HVR.out [.bool On.ideal,vd vq On.st,vd vt On.dr,ve A5 n5 c5,ve vB 0 0,ve vB 0 0] _,?_⟩
         refine zPU ?_
         refine Ec ?_;have zo:=ug [.bool On.ideal,vd vq On.st,vd vt On.dr,ve A5 n5 c5,ve vB 0 0,ve vB 0 0] dt.out rfl;have zr:=(If (g:=w.1.size) (b:=w.1.size+1) zO [.bool On.ideal,vd vq On.st,vd vt On.dr,ve A5 n5 c5,ve vB 0 0,ve vB 0 0] 0 wE).trans uz.out;have zb:=ak (xs:=[.bool On.ideal,vd vq On.st,vd vt On.dr,ve A5 n5 c5,ve vB 0 0,ve vB 0 0]) (g:=w.1.size) tx.out zR;have zd:=Za kD.out (sj (g:=w.1.size) (fun e=>(lN.out _ e).elim (fun e=>by have:=e.2;omega) fun e=>zO) [.bool On.ideal,vd vq On.st,vd vt On.dr,ve A5 n5 c5,ve vB 0 0,ve vB 0 0] wE)
         have zw:=Ge dz.out (u:=Cc wE w.1.size [.bool On.ideal,vd vq On.st,vd vt On.dr,ve A5 n5 c5,ve vB 0 0,ve vB 0 0] 0) fun b hb=>If (fun e=>by have:=(dz.out.lt b hb).1;have:=LL2.out;omega) _ 0 wE
         have zg:=Za HA7.out (sj (g:=w.1.size) (fun e=>by have:=Jm.out.2.2 _ e;omega) [.bool On.ideal,vd vq On.st,vd vt On.dr,ve A5 n5 c5,ve vB 0 0,ve vB 0 0] wE)
         simp only [Cc,yf,Nat.reduceAdd] at zo zr zb zd zw zg;generalize vE (vE (vE (vE (vE (vE (wE) _ _) _ _) _ _) _ _) _ _) _ _=w9 at zo zr zb zd zw zg |-;have DN:=zH (And.intro zo (And.intro zr (And.intro zb (And.intro zd (And.intro zw zg)))));obtain ⟨ic,hic⟩:=zEX (2*(i+1));have e2:vt.wrap ((ia:Int)+2)=(ic:Int):=by rw [pj];have:=HIA.out.1;omega
         have e2':wrap64 ((ia:Int)+2)=(ic:Int):=by unfold wrap64;have:=HIA.out.1;omega
         have HIC:=zH hic;clear zo zr zb zd zw zg co fo da Ez tx dt uz kD dz HA7 Fa hic;go_wp2
         go_roundw
         case rel =>
          obtain ⟨zo,zr,zb,zd,zw,zg⟩:=DN.out;refine ⟨i+1,A5,n5,c5,KY,HIA.out.2,by first | (rw [<- HIC.out];done) | (rw [<- HIC.out];go_num) | go_num,zw,?_,zr,?_,lN,HKO,HKY4,ym zg,zb⟩
          ·rw [<- HOn.out];exact zo
          ·rw [<- HOn.out];exact zd
         case measure=>exact zD9 HIA.out.1 HIC.out HIA.out.2
        ·have Xd:i=nh:=by omega
         subst Xd;rw [HPT.out] at ko Ui;obtain ⟨ia,Xo⟩:=zEX (2*i);rw [<- Xo];obtain ⟨ly,Tf,iy⟩:=HNH.out;obtain ⟨GJ,hM,mE,nE,DE⟩:=HSTA.out;have gd:decide ((ia:Int)<nl)=false:=Ib zO;have gd':¬((ia:Int)<nl):=by omega
         have hvs2:wr.ownsRow (w.1.size+2) 28 1 u14 (ls.length+1) cs:=Ge HVS.out fun b hb=>Wr.block b (by rw [HP.out];exact HVS.out.lt b hb) (HVS.out.lt b hb).2
         have mM:qh (w.1.size+2) wr u14 cs (ls++[lj]):=cO Uy.out Wr.size fun b h1 h2 _=>Wr.block b (by rw [HP.out];exact ⟨h1,h2⟩) h2
         obtain ⟨Aq,cq,rfl,-⟩:=mc oa;have ja:=zA wr (.cells #[ve Aq i cq] 28);have JH:=HVS.out.lt;have hwn:=Wr.size;have Zz:0<i:=by rw [ly];exact Nat.two_pow_pos j'
         have kE:=iz.out i zR;rw [HPT.out] at kE;have Nt:=HPV.out;have mD:=zH (show (List.range i).map gf=Mj Oj 17 ps from Nt.symm)
         have ZX:=zH (show ∀ y∈Mj Oj 17 ps,y<18446744073709551616 from fun y hy=>Sp (XT GJ.ans 17 ps y hy))
         have tB:=zH oa;have HVS2:=zH hvs2;have HGR2:=zH mM;have KO:=zH ko;have KR:=zH kr;have Cu:=zH (zk Ui);have HB:=zH ba;have fj:=zH ja;have vG:=zH kE;have HFF:=zH (And.intro ly (And.intro Tf (And.intro hM (And.intro mE (And.intro nE DE)))));have GI:=HPSD.out;have HSZ:=zH hwn;have hll:ls.length+1 <= 10:=by omega
         have hH2:w.1.size+2 <= wr.1.size:=kr.lt;clear oa mM ko kr Ui ba kE Nt GJ hM mE nE DE ly Tf iy Xo ta Wr HPV HPH HPG HGF Xl iz HNH HSTA Uy HVS;go_upto_region 23 with fail
         go_wp2_with (at_builtin;refine fe rfl _ _ rfl el_rw rfl (hvs2.alloc _) rfl (mh _ _ _) (by intro u hu;rw [zz.1 hu];rfl) zO zT ?_)
         intro v' wn Va Ja tb;go_wp2
         go_roundw
         case rel =>
          obtain ⟨ly,Tf,hM,mE,nE,DE⟩:=HFF.out;have uM:∀ b,u14.ownBlock=vD b -> w.1.size+2 <= b /\ b<wL.1.size:=JH;have hsa:(wr.alloc (.cells #[ve Aq i cq] 28)).1.size=wr.1.size+1:=by simp
          have hows:=zET (yb tB.out fj.out zR) Ja fun q h1 h2=>by have:=(tB.out.lt q h1).1;have:=(uM q h2).2;omega
          have db:=HSZ.out;have howr:wn.ownsRow (w.1.size+2) 22 1 (ve Aq i cq) (2^j') (Qa (Mj Oj 17 (tp lj))):=by
           rw [<- GI,<- mD.out,<- ly];exact Bh hows (zQ LL2.out)
          have Yo:∀ b,(ve Aq i cq).ownBlock=vD b -> v'.ownBlock≠vD b:=fun b hb e=>by
           have h1:=tB.out.lt b hb;rcases tb with h | h
           ·rw [h] at e;have:=(uM b e).2;omega
           ·rw [h] at e;have:=Pb e;omega
          refine ⟨j',ls++[lj],kd Oj 17 (tp lj),Mj Oj 17 (tp lj),A3,n3,c3,fun b=>KX3 b /\ b<wr.1.size,M+i,cs++[ve Aq i cq],⟨?_,?_,howr,Yo⟩,⟨?_,?_⟩,⟨?_,?_,?_⟩,⟨?_,?_⟩,⟨?_,?_⟩,⟨?_,?_,?_⟩,?_⟩
          ·rw [<- GI,<- mD.out,dw,Lx,ly]
          ·rw [<- GI];exact ZX.out
          ·rw [<- GI];exact vG.out
          ·rw [<- ly];omega
          ·rw [mE];simp [Ls]
          ·rw [nE];rfl
          ·simp only [Pp,pk,List.length_nil];omega
          ·rw [Pp];exact Va
          ·refine eE (cO HGR2.out fj.out.size fun b _ h2 _=>fj.out.block b h2) ?_ Ja (by rw [hsa];exact tb)
           rw [<- GI];refine W9 (base:=wL.1.size) (n:=i) (e:=22) (by rw [<- mD.out];exact yb tB.out fj.out zR) ZX.out LL2.out fun b hb e=>?_
           have:=(tB.out.lt b hb).1;have:=(uM b e.symm).2;omega
          ·rw [<- GI]
           exact (KO.out.below fj.out KO.out.lt).grown Ja fun e=>by have:=(uM _ e.symm).1;omega
          ·exact (KR.out.below fj.out KR.out.lt).grown Ja fun e=>by have:=(uM _ e.symm).1;omega
          ·rw [<- GI]
           exact Za (Za Cu.out (Yb fj.out)) (zBj Ja fun b e h=>HK3.out b e h.1)
          ·exact fun b hb=>Vl.out b hb.1
          ·intro b hb h
           rcases tb with e | e
           ·rw [e] at hb;exact HK3.out b hb h.1
           ·rw [e] at hb;have:=Pb hb;have:=h.2;omega
          ·have La:=pa HB.out fj.out
           exact ⟨Ja.os.trans La.os,Ja.tape.trans La.tape,Ja.output.trans La.output,Cb La.size Ja.size,fun b hb=>(Ja.block b zO fun e=>by have:=(uM b e.symm).1;omega).trans (La.block b hb)⟩
         case measure=>simp only [sLen];have:=HFF.out.2.1;omega
structure StB (g:Nat) (w wf:vv):Prop where
 os:wf.os=w.os
 tape:wf.tape=w.tape
 output:wf.output=w.output
 size:wf.1.size=w.1.size
 far:∀ j,j≠g -> wf.1[j]?=w.1[j]?
section
variable {g:Nat} {w wf:vv}
theorem WM (g:Nat) (xs:List vw) (w:vv):StB g w (Cc w g xs 0) :=
 ⟨(oP g xs 0 w).2.1,(oP g xs 0 w).2.2.1,(oP g xs 0 w).2.2.2,(oP g xs 0 w).1,fun _ hj=>If hj xs 0 w⟩
theorem StB.blk (h:StB g w wf) {b:Nat} {t:vy} {cs:Array vw} (k:Blk w b t cs) (hb:b≠g):Blk wf b t cs:=(h.far b hb).trans k
theorem StB.below (h:StB g w wf) {w0:vv} {N:Nat} (k:vz N w0 w) (hN:N <= g):vz N w0 wf :=
 ⟨h.os.trans k.os,h.tape.trans k.tape,h.output.trans k.output,Cb k.size (Nat.le_of_eq h.size.symm),fun b hb=>(h.far b zO).trans (k.block b hb)⟩
theorem StB.agr (h:StB g w wf) {K:Nat -> Prop} (hK:¬K g):Od K w wf:=⟨h.os,h.tape,h.output,Nat.le_of_eq h.size.symm,fun b hb _=>h.far b fun e=>hK (e ▸ hb)⟩
theorem StB.hd (h:StB g w wf) {K:Nat -> Prop} {Q:vv -> Prop} (k:Hd K w Q) (hK:¬K g):Hd K wf Q:=Za k (h.agr hK)
theorem StB.own (h:StB g w wf) {base n size:Nat} {e:vy} {x:vw} {xs:List vw} (k:w.ownsRow base e size x n xs) (hg:∀ b,x.ownBlock=vD b -> b≠g):wf.ownsRow base e size x n xs:=Ge k fun b hb=>h.far b (hg b hb)
theorem StB.trans {v:vv} (h:StB g w wf) (k:StB g wf v):StB g w v:=⟨k.os.trans h.os,k.tape.trans h.tape,k.output.trans h.output,k.size.trans h.size,fun j hj=>(k.far j hj).trans (h.far j hj)⟩
theorem oX (g i:Nat) (v:vw):StB g w (w.setCell ⟨g,i,vB⟩ v):=⟨rfl,rfl,rfl,by simp [vE],fun j hj=>Tg w ⟨g,i,vB⟩ v j hj⟩
end
theorem pX {w:vv} {g:Nat} {t:vy} {y0 y1 y2 y3 y4 y5 y6 y7:vw} (k:Blk w g t #[y0,y1,y2,y3,y4,y5,y6,y7]) (x0 x1 x2 x3 x4 x5 x6 x7:vw):∃ wf,((((((((w).setCell ⟨g,0,vB⟩ x0).setCell ⟨g,1,vB⟩ x1).setCell ⟨g,2,vB⟩ x2).setCell ⟨g,3,vB⟩ x3).setCell ⟨g,4,vB⟩ x4).setCell ⟨g,5,vB⟩ x5).setCell ⟨g,6,vB⟩ x6).setCell ⟨g,7,vB⟩ x7=wf /\ Blk wf g t #[x0,x1,x2,x3,x4,x5,x6,x7] /\ StB g w wf :=
 ⟨_,rfl,ug [x0,x1,x2,x3,x4,x5,x6,x7] k rfl,WM g [x0,x1,x2,x3,x4,x5,x6,x7] w⟩
theorem zAg {w:vv} {g:Nat} {t:vy} {y0 y1 y2 y3 y4 y5 y6:vw} (k:Blk w g t #[y0,y1,y2,y3,y4,y5,y6]) (x0 x1 x2 x3 x4 x5 x6:vw):∃ wf,(((((((w).setCell ⟨g,0,vB⟩ x0).setCell ⟨g,1,vB⟩ x1).setCell ⟨g,2,vB⟩ x2).setCell ⟨g,3,vB⟩ x3).setCell ⟨g,4,vB⟩ x4).setCell ⟨g,5,vB⟩ x5).setCell ⟨g,6,vB⟩ x6=wf /\ Blk wf g t #[x0,x1,x2,x3,x4,x5,x6] /\ StB g w wf :=
 ⟨_,rfl,ug [x0,x1,x2,x3,x4,x5,x6] k rfl,WM g [x0,x1,x2,x3,x4,x5,x6] w⟩
theorem zAf {w:vv} {g:Nat} {t:vy} {y0 y1 y2 y3 y4 y5:vw} (k:Blk w g t #[y0,y1,y2,y3,y4,y5]) (x0 x1 x2 x3 x4 x5:vw):∃ wf,((((((w).setCell ⟨g,0,vB⟩ x0).setCell ⟨g,1,vB⟩ x1).setCell ⟨g,2,vB⟩ x2).setCell ⟨g,3,vB⟩ x3).setCell ⟨g,4,vB⟩ x4).setCell ⟨g,5,vB⟩ x5=wf /\ Blk wf g t #[x0,x1,x2,x3,x4,x5] /\ StB g w wf :=
 ⟨_,rfl,ug [x0,x1,x2,x3,x4,x5] k rfl,WM g [x0,x1,x2,x3,x4,x5] w⟩
theorem zHC {w:vv} {g:Nat} {t:vy} {y0 y1 y2 y3 y4 y5 y6 y7:vw} (k:Blk w g t #[y0,y1,y2,y3,y4,y5,y6,y7]) (x0 x1 x2 x3 x4 x5:vw):∃ wf,((((((w).setCell ⟨g,0,vB⟩ x0).setCell ⟨g,1,vB⟩ x1).setCell ⟨g,2,vB⟩ x2).setCell ⟨g,3,vB⟩ x3).setCell ⟨g,4,vB⟩ x4).setCell ⟨g,5,vB⟩ x5=wf /\ Blk wf g t #[x0,x1,x2,x3,x4,x5,y6,y7] /\ StB g w wf :=
 ⟨_,rfl,by have h:=((((((k).set_ 0 x0).set_ 1 x1).set_ 2 x2).set_ 3 x3).set_ 4 x4).set_ 5 x5;simpa using h,WM g [x0,x1,x2,x3,x4,x5] w⟩
theorem zAe {w:vv} {g:Nat} {t:vy} {y0 y1 y2:vw} (k:Blk w g t #[y0,y1,y2]) (x0 x1 x2:vw):∃ wf,(((w).setCell ⟨g,0,vB⟩ x0).setCell ⟨g,1,vB⟩ x1).setCell ⟨g,2,vB⟩ x2=wf /\ Blk wf g t #[x0,x1,x2] /\ StB g w wf :=
 ⟨_,rfl,ug [x0,x1,x2] k rfl,WM g [x0,x1,x2] w⟩
theorem sS {O:Oa} {k k':Nat} (h:jm O k) (hk:k <= k'):jm O k':=⟨h.fair,h.ans,ti h.le hk,h.st⟩
theorem C9 {O:Oa} {k:Nat} (h:jm O k) (lab:Nat) (qs:List (List Nat)):jm (kd O lab qs) (k+qs.length):=by
 have:=ZO h lab qs qs.length zR
 rwa [GD zR] at this
theorem D9:∀ (d:Nat) {O:Oa} {k:Nat} (l:List Nat),l.length=2^d -> jm O k -> jm (TF d O l) (k+2^d)
 | 0,_,_,_,_,h=>sS h zO
 | d+1,O,k,l,hl,h=>by
  have e:l.length / 2=2^d:=by rw [hl,qj];omega
  have h1:=C9 h 17 (tp l);rw [rR,e] at h1;refine sS (D9 d (Mj O 17 (tp l)) (by rw [pR,rR,e]) h1) ?_
  rw [qj];omega
theorem PvIn.o2_ref (x:PvIn) (O:Oa) {k:Nat} (hn:x.L.n=2^x.dd) (h:jm (x.t1 O).O k):jm (x.o2 O) (k+2*x.L.n):=by
 have h1:=C9 h 16 (pn x.cols x.l4);rw [aW,x.cols_len] at h1;have h2:=D9 x.dd (Mj (x.t1 O).O 16 (pn x.cols x.l4)) (by rw [pR,aW,x.cols_len,hn]) h1
 rw [<- hn] at h2;exact sS h2 zO
end Go.Proofs.YtodmnanljoaocaaGreat
