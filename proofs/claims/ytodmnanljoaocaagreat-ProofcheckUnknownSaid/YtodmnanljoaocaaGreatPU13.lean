/- A part of the proof. No condition. -/
import Derived.Test.YtodmnanljoaocaaGreatPU9
import Derived.Test.YtodmnanljoaocaaGreatPU10

set_option maxRecDepth 100000
set_option maxHeartbeats 8000000
set_option linter.unusedVariables false
set_option linter.unusedSimpArgs false
namespace Go.Proofs.YtodmnanljoaocaaGreat
open Go.RowKit
open Tryz
open Go renaming World->vv, Value->vw, Addr->vx, TypeId->vy, Calls->vA
open Go.Value renaming int->vd, slice->ve, agg->vf
open Go.IntKind renaming u64->vq, i64->vt
open Go.Ending renaming returned->vn
open Go.RowKit renaming Below->vz
open Go.Act renaming put->vF
open Option renaming none->vB, some->vD
def TN (p pu n Na:Nat) (rows:List Ya) (k:Nat) (f:Nat -> Nat):Nat -> (Nat -> Nat)
 | 0=>f
 | i+1=>uq p pu (Na^(k*n+i)%p) (TN p pu n Na rows k f i) (Cd (rows.getD i ⟨[],[],[]⟩) k) (Cd (rows.getD i ⟨[],[],[]⟩) k).length
def kJ (p pu n Na:Nat) (rows:List Ya):Nat -> (Nat -> Nat)
 | 0=>fun _=>0
 | k+1=>TN p pu n Na rows k (kJ p pu n Na rows k) n
def Bl (L:Xa) (pu Na:Nat) (rows:List Ya):List (List Nat) :=
 Ct L.block (Le ((List.range L.secret).map (kJ L.p pu rows.length Na rows 3)) (Ch L.p rows.length Na 0) (Ch L.p rows.length Na 1) (Ch L.p rows.length Na 2)) (Le L.a L.b L.b L.b)
def dB (g h N:Nat) (w w':vv):Prop:=vz 0 w w' /\ ∀ b,b<N -> b≠g -> b≠h -> w'.1[b]?=w.1[b]?
theorem zC2 (g h N:Nat) (w:vv):dB g h N w w:=⟨Bb _ _,fun _ _ _ _=>rfl⟩
theorem PG {g h N:Nat} {a b c:vv} (x:dB g h N a b) (y:dB g h N b c):dB g h N a c:=⟨x.1.trans y.1,fun k h1 h2 h3=>(y.2 k h1 h2 h3).trans (x.2 k h1 h2 h3)⟩
theorem bO {g h N B:Nat} {a b:vv} (x:vz B a b) (hN:N <= B):dB g h N a b:=⟨x.mono (Rb _),fun k h1 _ _=>x.block k zO⟩
theorem EU {g h N:Nat} {a b:vv} {u:Option Nat} (x:a.grownBy b u) (hu:∀ q,u=vD q -> q=g \/ q=h \/ N <= q) (hN:N <= a.1.size):dB g h N a b :=
 ⟨ND x 0 (Rb _) (fun _ _=>Rb _),fun k h1 h2 h3=>x.block k zO (fun e=>by
  rcases hu k e.symm with e1 | e1 | e1 <;> omega)⟩
theorem tJ {g h N b:Nat} {w w':vv} {t:vy} {cs:Array vw} (k:Blk w b t cs) (x:dB g h N w w') (hb:b<N) (h1:b≠g) (h2:b≠h):Blk w' b t cs:=by
 unfold Blk at *;rw [x.2 b hb h1 h2];exact k
theorem IQ {g h N B:Nat} {a b c:vv} (hab:vz B a b) (x:dB g h N b c) (hN:B <= N) (h1:B <= g) (h2:B <= h):vz B a c :=
 hab.trans ⟨x.1.os,x.1.tape,x.1.output,x.1.size,fun k hk=>x.2 k zO zO zO⟩
theorem zF9 (L:Xa) (pu Na:Nat) (vars:Int) (A:Option vx) (R c:Nat) (rows:List Ya) (w:vv) (hL:ed L) (hF:Px L pu vars rows) (hr:RSl 3 Ue w [ve A R c] rows) (hV:LD vars rows) :
  vA prog 52 #[vf (Eb L),Kc L.p (pu:Int) vars (ve A R c),vd vq Na] w fun e w'=>∃ v,e=vn v /\ Ye w' [v] (Bl L pu Na rows) /\ vz w.1.size w w':=by
 obtain ⟨A',n',c',he,Of,Ce,Ef,Ka⟩:=hr;simp at he
 obtain ⟨rfl,rfl,rfl⟩:=he;have hs:=hL.s;have Ym:=hL.r;have OE:=hF.nr;have pA:=hF.sec;have VE:=hF.small;have hR:R=rows.length:=Of.symm;have gR:R <= 16384:=by omega
 have Mp:=zH (fun x y z w hx hy hz=>X8 x y z w hx hy hz)
 have HM:=zH (fun a b w=>RA L.p a b w hL.p)
 have HS:=zH (fun a b w=>Y8 L.p a b w hL.p)
 have aT:=zH (fun v0 v1 v2 v3 l0 l1 l2 l3 w h=>zGd L v0 v1 v2 v3 l0 l1 l2 l3 w hL h)
 obtain ⟨pw,Vj⟩:∃ pw:Nat -> Nat,pw=fun i=>Na^i%L.p:=⟨_,rfl⟩
 have Gu:=zH (show ∀ i,pw i<18446744073709551616 from fun i=>by rw [Vj];exact gg (Ic _ (zQ (tc hL.p))) (tc hL.p).2)
 have Wl:=zH (show pw 0=1 by rw [Vj];show Na^0%L.p=1;rw [Nat.pow_zero];exact Om (zQ (tc hL.p)))
 have Xl:=zH (show ∀ i,pw i*Na%L.p=pw (i+1) from fun i=>by rw [Vj];show Na^i%L.p*Na%L.p=Na^(i+1)%L.p;rw [Nat.mod_mul_mod,qj])
 obtain ⟨fK,hfK⟩:=zEX (kJ L.p pu rows.length Na rows);obtain ⟨fI,hfI⟩:=zEX (fun k=>TN L.p pu rows.length Na rows k (fK k))
 have HK0:=zH (show fK 0=fun _=>0 by rw [hfK];rfl)
 have jf:=zH (show ∀ k,fK (k+1)=fI k R from fun k=>by rw [hfI,hfK,hR];rfl)
 have HI0:=zH (show ∀ k,fI k 0=fK k from fun k=>by rw [hfI];rfl)
 have HIS:=zH (show ∀ k i (hi:i<rows.length),fI k (i+1)=uq L.p pu (pw (k*R+i)) (fI k i) (Cd rows[i] k) (Cd rows[i] k).length from fun k i hi=>by
  have e:rows.getD i ⟨[],[],[]⟩=rows[i]:=by rw [Gc,Dc hi];rfl
  rw [hfI,hR,Vj];show uq L.p pu (Na^(k*rows.length+i)%L.p) _ (Cd (rows.getD i ⟨[],[],[]⟩) k) (Cd (rows.getD i ⟨[],[],[]⟩) k).length=_
  rw [e])
 have Nb:=(tc hL.p).2;have HT:=zH (show ∀ (x:Nat) (f:Nat -> Nat) ts t,(∀ k,f k<L.p) -> ∀ k,uq L.p pu x f ts t k<L.p from fun x f ts t hf=>by
  induction t with
  | zero=>exact hf
  | succ t ih =>
   intro k;show Zw L.p pu x (uq L.p pu x f ts t) _ k<_
   unfold Zw;split
   ·unfold ui
    split
    ·exact Ic _ (zQ (tc hL.p))
    ·exact ih k
   ·exact ih k)
 have HI:=zH (show ∀ k,(∀ s,fK k s<L.p) -> ∀ i,i <= rows.length -> ∀ s,fI k i s<L.p from fun k hk i=>by
  induction i with
  | zero=>intro _;rw [HI0.out];exact hk
  | succ i ih=>intro hi;rw [HIS.out k i zO];exact HT.out _ _ _ _ (ih zO))
 have HKX:=zH (show ∀ k s,fK k s<18446744073709551616 from fun k=>by
  have:∀ k s,fK k s<L.p:=fun k=>by
   induction k with
   | zero=>intro s;rw [HK0.out];have:=tc hL.p;show 0<_;omega
   | succ k ih=>rw [jf.out];exact HI.out k ih R zO
  exact fun s=>gg (this k s) Nb)
 have HCD:=zH (show Bl L pu Na rows=Ct L.block (Le ((List.range L.secret).map (fK 3)) (Ch L.p R Na 0) (Ch L.p R Na 1) (Ch L.p R Na 2)) (Le L.a L.b L.b L.b) by rw [hfK,hR];rfl)
 have Jm:=zH (show ∀ k,(List.range R).map (fun i=>pw (k*R+i))=Ch L.p R Na k from fun k=>by rw [Vj];rfl)
 have yD:=zH (show ∀ i (hi:i<rows.length) k,k<3 -> ∀ t (ht:t<(Cd rows[i] k).length),0 <= ((Cd rows[i] k).getD t (0,0)).1 /\ ((Cd rows[i] k).getD t (0,0)).1<vars from fun i hi k hk t ht=>by
  rw [Gc,Dc ht];exact hV _ (pg hi) k hk _ (pg ht))
 have pT:=zH (And.intro pA VE);have tD:=zH hR;have mk:=zC L.secret zO;have gs1:(L.secret:Int) <= 65536:=by omega
 have gs0:(0:Int)<=L.secret:=by omega
 have gRi:(R:Int) <= 16384:=by omega
 rw [HCD.out];clear hV Vj hfK hfI hF hs Ym OE pA VE Nb HCD HT HI Ce Ef Of hR hL;unfold Eb Kc at *;obtain ⟨kl,kt,ba,-⟩:=ig w 38 25 #[vd vq L.p,vd vt L.block,vd vt L.queries,vd vt L.k,vd vt L.n,vd vt L.secret,vd vt L.rows,vd vt L.a,vd vt L.b,vd vt L.b,vd vt L.b] #[vd vq L.p,vd vt pu,vd vt vars,ve A R c];go_enter func52,ntmps52
 go_upto_region 1 with fail
 generalize (w.alloc _).alloc _=w1 at kl kt ba |-;have hlt1:=kt.lt;go_upto_region 2 with fail
 obtain ⟨kv,ja⟩:=zN w1 179 #[ve vB 0 0,ve vB 0 0,ve vB 0 0,ve vB 0 0];replace kl:=ma kl ja;replace kt:=ma kt ja;replace ba:=pa ba ja;clear ja;obtain ⟨gv,lH⟩:=zEX (w1.1.size);have sC:(w1.alloc (.cells #[ve vB 0 0,ve vB 0 0,ve vB 0 0,ve vB 0 0] 179)).1.size=gv+1:=by rw [lH];simp
 rw [<- lH] at kv hlt1 |-;clear lH;generalize w1.alloc _=w2 at kl kt kv ba sC |-;have cl:=kl.cell;have cv:=kv.cell;have fv1:=kv.frozen;have lv:=kv.lt;have xG:=zH sC;clear sC;go_upto_region 3 with fail
 have sC:=xG.out;clear xG;clear cl cv fv1 lv;obtain ⟨gs,kH⟩:=zEX (w2.1.size);rw [<- kH] at sC |-;have hg:=dk (w:=w2) gv 0 (ve (vD ⟨gs,0,vB⟩) L.secret L.secret);have ur:(w2.setCell ⟨gv,0,vB⟩ (ve (vD ⟨gs,0,vB⟩) L.secret L.secret)).1.size=gs:=by rw [kH];simp
 replace kv:=kv.set_ 0 (ve (vD ⟨gs,0,vB⟩) L.secret L.secret);replace kv:Blk (w2.setCell ⟨gv,0,vB⟩ (ve (vD ⟨gs,0,vB⟩) L.secret L.secret)) gv 179 #[ve (vD ⟨gs,0,vB⟩) L.secret L.secret,ve vB 0 0,ve vB 0 0,ve vB 0 0]:=by simpa using kv
 replace kl:=kl.grown hg (fun e=>by have:=Pb e;omega)
 replace kt:=kt.grown hg (fun e=>by have:=Pb e;omega)
 replace ba:=Qe ba hg;clear hg kH;generalize w2.setCell _ _=w3 at kl kt kv ba ur |-;have kg:=Blk.new w3 22 (Fb L.secret fun _=>0)
 have ja:=zA w3 (.cells (Fb L.secret fun _=>0) 22)
 replace kl:=ma kl ja;replace kt:=ma kt ja;replace kv:=ma kv ja;replace ba:=pa ba ja;have rm:gs+1 <= (w3.alloc (.cells (Fb L.secret fun _=>0) 22)).1.size:=by simp;omega
 rw [ur] at kg;clear ja mk ur;generalize w3.alloc _=w4 at kl kt kv kg ba rm |-;have n1:w.1.size<gv:=by omega
 have n2:w.1.size+1<gv:=by omega
 have n3:gv<gs:=by omega
 clear sC hlt1;have H1:=zH (show (1:Int)=((pw (0*R):Nat):Int) by rw [Nat.zero_mul,Wl.out];rfl)
 obtain ⟨V0,wm⟩:∃ V0:vw,V0=ve (vD ⟨gs,0,vB⟩) L.secret L.secret:=⟨_,rfl⟩;have pz:=zH wm;rw [<- wm] at kv;clear wm;go_wp2_with fail
 go_loopw [8,9] (fun xv y wr=>∃ (k:Nat) (xs:Nat -> vw),k <= 3 /\ y=vd vt k /\ xv=vd vq (pw (k*R):Int) /\ Blk wr w.1.size 38 #[vd vq L.p,vd vt L.block,vd vt L.queries,vd vt L.k,vd vt L.n,vd vt L.secret,vd vt L.rows,vd vt L.a,vd vt L.b,vd vt L.b,vd vt L.b] /\ Blk wr (w.1.size+1) 25 #[vd vq L.p,vd vt pu,vd vt vars,ve A R c] /\ Blk wr gv 179 #[V0,xs 0,xs 1,xs 2] /\ Blk wr gs 22 (Fb L.secret (fK k)) /\ (∀ j,j<k -> Bi (gs+1) vB wr (xs j) (Ch L.p R Na j)) /\ (∀ j,k <= j -> xs j=ve vB 0 0) /\ vz w.1.size w wr /\ gs+1 <= wr.1.size) (fun _ y _=>3-(intOf y).toNat)
 case atStart=>exact ⟨0,fun _=>ve vB 0 0,zO,rfl,by rw [<- H1.out],kl,kt,kv,by rw [HK0.out];exact kg,fun j h=>zO,fun j _=>rfl,ba,rm⟩
 case round =>
  clear kl kt kv kg ba rm;obtain ⟨k,xs,hk,rfl,rfl,kl,kt,kv,kg,uw,XE,ba,rm⟩:=hrel;by_cases ta:k<3
  ·have q1:(k:Int)<3:=by omega
   obtain ⟨wo,aF⟩:=zEX (wr);subst aF;have wv:=XE k zR;have ux:=zH uw;have HTD:=zH XE;obtain ⟨kr,gy⟩:=zEX (k*R);have kG:=zH gy;have HISk:=zH (show ∀ i (hi:i<rows.length),fI k (i+1)=uq L.p pu (pw (kr+i)) (fI k i) (Cd rows[i] k) (Cd rows[i] k).length from fun i hi=>by rw [gy];exact HIS.out k i hi)
   obtain ⟨fi,Tk⟩:=zEX (fI k);have HI0k:=zH (show fi 0=fK k by rw [Tk];exact HI0.out k)
   have HKSk:=zH (show fK (k+1)=fi R by rw [Tk];exact jf.out k)
   rw [<- Tk] at HISk;obtain ⟨FP,zJ⟩:∃ FP:Nat -> Nat,FP=fun i=>pw (kr+i):=⟨_,rfl⟩
   have HFP:=zH (show ∀ i,pw (kr+i)=FP i from fun i=>by rw [zJ])
   have HFX:=zH (show ∀ i,FP i<18446744073709551616 from fun i=>by rw [zJ];exact Gu.out _)
   have HFS:=zH (show ∀ i,FP i*Na%L.p=FP (i+1) from fun i=>by rw [zJ];exact Xl.out _)
   have Nv:=zH (show (List.range R).map FP=Ch L.p R Na k by rw [zJ,gy];exact Jm.out k)
   have HFE:=zH (show FP R=pw ((k+1)*R) by rw [zJ,gy,Nat.succ_mul])
   have Im:=zH (show pw (k*R)=FP 0 by rw [zJ,gy];rfl)
   rw [Im.out];have wO:uf xs k (ve vB 0 0)=xs:=by rw [<- wv,zAP]
   have kv1:Blk wo gv 179 #[V0,uf xs k (ve vB 0 0) 0,uf xs k (ve vB 0 0) 1,uf xs k (ve vB 0 0) 2]:=by rw [wO];exact kv
   have ix:=fun (w:vv) (x y z:vw)=>AO (w:=w) (x:=x) (y:=y) (z:=z) ta
   obtain ⟨k1,Jh⟩:=zEX (k+1);have ek:(k:Int)+1=(k1:Int):=by omega
   have UD:=Ud k1;have Vl:=zH Jh;have qk:k1<4:=by omega
   have qk2:(k1:Int)<4:=by omega
   have y1:w.1.size<wo.1.size:=by omega
   have y2:w.1.size+1<wo.1.size:=by omega
   have y3:gv<wo.1.size:=by omega
   have y4:gs<wo.1.size:=by omega
   clear wv wO uw XE kv Jh gy Tk zJ;have ct0:=kt.cell;go_wp2_with fail
   clear ct0;go_loopw [8,10] (fun xv y wr=>∃ (i:Nat) (x:vw),i <= R /\ y=vd vt i /\ xv=vd vq (FP i:Int) /\ Blk wr gv 179 #[V0,uf xs k x 0,uf xs k x 1,uf xs k x 2] /\ Blk wr gs 22 (Fb L.secret (fi i)) /\ wr.ownsRow wo.1.size 22 1 x i (Qa ((List.range i).map FP)) /\ dB gv gs wo.1.size wo wr) (fun _ y _=>R-(intOf y).toNat)
   case atStart=>exact ⟨0,ve vB 0 0,zO,rfl,rfl,kv1,by rw [HI0k.out];exact kg,⟨rfl, .inl ⟨rfl,rfl⟩⟩,zC2 _ _ _ _⟩
   case round =>
    clear kv1 kg;obtain ⟨i,x,hi,rfl,rfl,kv,kg,oa,Jb⟩:=hrel;have tC:wo.1.size <= wr.1.size:=Jb.1.size;have Fk:=tJ kt Jb y2 zO zO;have ct:=Fk.cell;have lt:=Fk.lt;by_cases qM:i<R
    ·have q2:(i:Int)<R:=by omega
     have q3:(0:Int)<=i:=by omega
     have q4:(0:Int)<=k1:=by omega
     have Fi:i<rows.length:=by have:=tD.out;omega
     obtain ⟨b,q,rfl⟩:=Ka.base zO zO;obtain ⟨cs,-,hc,u0,u1,u2,rfl,uA,xA,pK⟩:=Ka.get Fi;have te:=Af _ _ ((hc 0 zO).trans (show [u0,u1,u2][0]?=vD u0 from rfl))
     have HUC:=zH hc;have HU:=zH (show ∀ w',vz w.1.size w w' -> RLin w' [if k=0 then u0 else if k=1 then u1 else u2] (Cd rows[i] k) from fun w' hb=>by
      unfold Cd;rcases (show k=0 \/ k=1 \/ k=2 by omega) with h | h | h <;> subst h
      ·exact mn _ _ _ _ hb uA
      ·exact mn _ _ _ _ hb xA
      ·exact mn _ _ _ _ hb pK)
     have ix1:=fun (w:vv)=>ix w u0 u1 u2
     obtain ⟨dL,Se⟩:=zEX ((if k=0 then u0 else if k=1 then u1 else u2))
     rw [<- Se] at HU ix1;have Wj:=RSl.slc uA;have Zd:=RSl.slc xA;have Gg:=RSl.slc pK;have kN:=zH (HISk.out i Fi);have HVi:=zH (yD.out i Fi k ta);obtain ⟨ts,tv⟩:=zEX (Cd rows[i] k);rw [<- tv] at HU kN HVi;rw [HFP.out] at kN;have HSn:=zH (JC FP i);have HFSi:=zH (HFS.out i);obtain ⟨xm,hxm⟩:=zEX (FP i);obtain ⟨xn,hxn⟩:=zEX (FP (i+1));rw [<- hxm,<- hxn] at HFSi;rw [<- hxm] at HSn kN |-;have HXN:=zH hxn;have HMx:=zH (fun w=>by have:=HM.out xm Na w;rw [HFSi.out] at this;exact this)
     clear uA xA pK Se tv hxm hxn hc ix;obtain ⟨Ax,cx,rfl,-⟩:=mc oa;have cv:wr.cell? ⟨gv,k1,vB⟩=vD (ve Ax i cx):=by
      rw [kv.cell,Vl.out,lQ ta];simp [uf]
     have lv:=kv.lt;have Jc:∀ q,(ve Ax i cx).ownBlock=vD q -> wo.1.size <= q:=fun q e=>(oa.lt q e).1
     have ja:=zA wr (.cells #[vd vq xm] 22);go_wp2_with (at_builtin;refine fe rfl _ _ rfl Ag rfl (oa.alloc _) rfl (mh _ _ _) (Gf [xm]) zO zT ?_)
     intro v' wn Va Ja tb;have hsA:wo.1.size <= (wr.alloc (.cells #[vd vq xm] 22)).1.size:=by simp;omega
     replace kv:=ma kv ja;replace kg:=ma kg ja;replace kv:=kv.grown Ja (fun e=>by first | (have:=Jc _ e;omega) | (have:=Jc _ e.symm;omega))
     replace kg:=kg.grown Ja (fun e=>by first | (have:=Jc _ e;omega) | (have:=Jc _ e.symm;omega))
     replace Jb:=PG (PG Jb (bO ja tC)) (EU Ja (fun q e=>.inr (.inr (Jc q e))) hsA)
     replace Va:wn.ownsRow wo.1.size 22 1 v' (i+1) (Qa ((List.range (i+1)).map FP)):=Ii (b:=[xm]) Va HSn.out;obtain ⟨Aw,cw,rfl,-⟩:=mc Va;have WE:wo.1.size <= wn.1.size:=Jb.1.size;clear oa Ja tb ja hsA cv lv ct lt Fk;have cv:wn.cell? ⟨gv,k1,vB⟩=vD (ve Ax i cx):=by
      rw [kv.cell,Vl.out,lQ ta];simp [uf]
     have fv2:=kv.frozen;have Fk:=tJ kt Jb y2 zO zO;have ct:=Fk.cell;go_upto_region 11 with fail
     have Wb:=dk (w:=wn) gv k1 (ve Aw (i+1) cw);replace kv:=kv.set_ k1 (ve Aw (i+1) cw);rw [Vl.out,yY ta,zAQ,<- Vl.out] at kv;replace kg:=kg.grown Wb (fun e=>by have:=Pb e;omega)
     have De:=Zi Va Wb y3;replace Jb:=PG Jb (EU Wb (fun q e=>.inl (Pb e).symm) WE)
     clear Va Wb cv fv2 ct Fk;generalize wn.setCell _ _=w5 at kv kg De Jb |-;have Lb:=IQ ba Jb zO zO zO;have hcu:=HUC.out;have h0:=(Lb.cell (p:=⟨b,q+i*3+0,vB⟩) te).trans (hcu 0 zO);have h1:=(Lb.cell (p:=⟨b,q+i*3+1,vB⟩) te).trans (hcu 1 zO);have h2:=(Lb.cell (p:=⟨b,q+i*3+2,vB⟩) te).trans (hcu 2 zO);rw [ot] at h0;simp only [List.getElem?_cons_zero,List.getElem?_cons_succ] at h0 h1 h2;have Fk:=tJ kt Jb y2 zO zO;have ct:=Fk.cell;have Rt:wo.1.size <= w5.1.size:=Jb.1.size;clear hcu;go_wp2_with fail
     refine (Mp.out u0 u1 u2 _ Wj Zd Gg).mono ?_;rintro e w6 ⟨rfl,ra⟩;replace kv:=ma kv ra;replace kg:=ma kg ra;replace De:=yb De ra zR;replace Jb:=PG Jb (bO ra Rt);clear h0 h1 h2 ct Fk ra Lb Rt;have Mc:=IQ ba Jb zO zO zO;obtain ⟨As,ns,pc,rfl⟩:=RSl.slc (HU.out _ Mc);have af:=HU.out _ (Bb _ _);obtain ⟨A',n',c',he,Of,Ce,Ef,ni⟩:=af;simp at he
     obtain ⟨rfl,rfl,rfl⟩:=he;have gns:=Mh Ce Ef;have Kp:=zH Of;obtain ⟨fT,AE⟩:=zEX (uq L.p pu xm (fi i) ts);have xD:=zH (show fT 0=fi i by rw [AE];rfl)
     have HTS:=zH (show ∀ t,fT (t+1)=Zw L.p pu xm (fT t) (ts.getD t (0,0)) from fun t=>by rw [AE];rfl)
     have oB:=zH (show fi (i+1)=fT ns by rw [AE,<- Of];exact kN.out)
     clear AE Of Ce Ef Mc kN;go_wp2_with fail
     go_loopw [12] (fun y wr=>∃ t:Nat,t <= ns /\ y=vd vt t /\ Blk wr gv 179 #[V0,uf xs k (ve Aw (i+1) cw) 0,uf xs k (ve Aw (i+1) cw) 1,uf xs k (ve Aw (i+1) cw) 2] /\ Blk wr gs 22 (Fb L.secret (fT t)) /\ wr.ownsRow wo.1.size 22 1 (ve Aw (i+1) cw) (i+1) (Qa ((List.range (i+1)).map FP)) /\ dB gv gs wo.1.size wo wr) (fun y _=>ns-(intOf y).toNat)
     case atStart=>exact ⟨0,Rb _,rfl,kv,by rw [xD.out];exact kg,De,Jb⟩
     case round =>
      clear kv kg De Jb;obtain ⟨t,ht,rfl,kv,kg,De,Jb⟩:=hrel;have hswr:wo.1.size <= wr.1.size:=Jb.1.size;have Nf:=IQ ba Jb zO zO zO;by_cases Mw:t<ns
      ·have q5:(t:Int)<ns:=by omega
       have q6:(0:Int)<=t:=by omega
       have bn:t<ts.length:=by rw [Kp.out];exact Mw
       obtain ⟨b',q',rfl⟩:=ni.base zO zO;obtain ⟨tk,Nj⟩:=RLin.at_ (ni.below fF Nf) bn;have hv:=HVi.out t bn;have Km:=zH (HTS.out t);revert tk Nj hv Km
       generalize ts.getD t (0,0)=tm;obtain ⟨v,co⟩:=tm;intro tk Nj hv Km;simp only at tk Nj hv;have Un:=Af _ _ tk;simp only at Un;obtain ⟨v1,Xk⟩:=zEX (v-1);obtain ⟨v2,Lh⟩:=zEX (v1-(pu:Int));have pA:=pT.out;have y1':v-1=v1:=Xk.symm;have y2':vt.wrap v1=v1:=Sl _ zO zO;have y3':v1-(pu:Int)=v2:=Lh.symm;have y4':vt.wrap v2=v2:=Sl _ zO zO;have oz:=zH (show fT (t+1)=if 0 <= v2 then ui (fT t) v2.toNat ((fT t v2.toNat+Qf L.p (xm*co%L.p))%L.p) else fT t by rw [Km.out,Lh,Xk];rfl)
       have Cs:v2<(L.secret:Int):=by omega
       have Fk:=tJ kt Jb y2 zO zO;have ct:=Fk.cell;have lt:=Fk.lt;clear Xk Lh pA hv Km;go_upto_region 15 with fail
       refine Yc (yc) [] [0,1,2,3,4,5,6,7,8,9] zK zK ?_;refine Td (ya) ?_;intro Wc Ca da;have Ma:=Lf Ca;refine dc ?_;refine Ec ?_;have c2w:=(Ma.cell (p:=⟨b',q'+t*2+1,vB⟩) Un).trans Nj;replace Un:=Be Un Ma.size;replace kv:=ma kv Ma;replace kg:=ma kg Ma;replace De:=yb De Ma zR;replace Jb:=PG Jb (bO Ma hswr);clear ct lt Fk da tk Nj;have hs7:wo.1.size <= Wc.1.size:=Jb.1.size;generalize Wc=w7 at kv kg De Jb c2w Un hs7 |-;by_cases hz:0 <= v2
       ·have d1:decide ((0:Int) <= v2)=true:=Qb hz
        obtain ⟨s,rfl⟩:=Zl hz;have ny:s<L.secret:=by omega
        obtain ⟨a,ha⟩:=zEX (fT t s);obtain ⟨u,hu⟩:=zEX (xm*co%L.p);obtain ⟨r,hr⟩:=zEX ((a+Qf L.p u)%L.p);have zi:=zH (show (Fb L.secret (fT t)).setIfInBounds s (vd vq r)=Fb L.secret (fT (t+1)) by
         rw [bE,oz.out,Gb hz,Dn,hr,hu,ha])
        have og:Hid (∀ w:vv,vA prog 122 #[vd vq L.p,vd vq xm,vd vq co] w fun e w'=>e=vn (vd vq u) /\ vz w.1.size w w'):=zH (fun w=>by rw [hu];exact HM.out xm co w)
        have ai:Hid (∀ w:vv,vA prog 121 #[vd vq L.p,vd vq a,vd vq u] w fun e w'=>e=vn (vd vq r) /\ vz w.1.size w w'):=zH (fun w=>by rw [hr];exact HS.out a u w)
        have HA:=zH ha;clear hu hr ha;go_upto_region 17 with fail
        have Fk:=tJ kt Jb y2 zO zO;have ct:=Fk.cell;have lt:=Fk.lt;have cv:=kv.cell 0;have lv:=kv.lt;rw [show (#[V0,uf xs k (ve Aw (i+1) cw) 0,uf xs k (ve Aw (i+1) cw) 1,uf xs k (ve Aw (i+1) cw) 2]:Array vw)[0]?=vD V0 from rfl,pz.out] at cv
        have cg:=kg.cell s;rw [Pn _ ny,<- HA.out] at cg;have lg:=kg.lt;refine Oh (yc) (ya) [21] [21] [0,1,2,3,4,5,6,7,8,9,10,11,12,13,14,15,16,17,18,19,20,21] zK zK ?_;refine Ph (ya) ?_;intro Wc da;refine Te ?_;refine Fe ya rfl rfl rfl rfl (fun w' hR=>og.out _) ?_
        refine zPU ?_;refine Te ?_;refine Fe ya rfl rfl rfl rfl (fun w' hR=>ai.out _) ?_
        refine zPU ?_;refine Te ?_;refine oo rfl rfl rfl rfl ?_;intro wh Md;replace da:=zM ya da Md;have Kd:=pa (Bb w7.1.size w7).drew da;replace kv:=ma kv Kd;replace kg:=ma kg Kd;replace De:=yb De Kd zR;replace Jb:=PG Jb (bO Kd hs7);clear Kd da Md ct lt Fk cv lv cg lg;have c3:=kg.cell s;rw [Pn _ ny] at c3;have f3:=kg.frozen;have hs8:wo.1.size <= wh.1.size:=Jb.1.size;go_simp;refine ⟨fun h=>Bool.noConfusion h,?_⟩
        have hg:=dk (w:=wh) gs s (vd vq r);replace kg:=kg.set_ s (vd vq r);rw [zi.out] at kg;replace kv:=kv.grown hg (fun e=>by have:=Pb e;omega)
        have Lt:=Zi De hg y4;replace Jb:=PG Jb (EU hg (fun q e=>.inr (.inl (Pb e).symm)) hs8)
        clear hg f3 c3 De;generalize wh.setCell _ _=we at kg kv Lt Jb |-;refine Fp rfl ?_;go_wp2_with fail
        go_roundw
        case rel=>exact ⟨t+1,zO,by go_num,kv,kg,Lt,Jb⟩
        case measure=>simp [intOf];omega
       ·have d1:decide ((0:Int) <= v2)=false:=Ib hz
        have qT:=zH (show fT (t+1)=fT t by rw [oz.out,mb hz])
        go_wp2_with fail
        go_roundw
        case rel=>exact ⟨t+1,zO,by go_num,kv,by rw [qT.out];exact kg,De,Jb⟩
        case measure=>simp [intOf];omega
      ·obtain rfl:t=ns:=by omega
       have q5:¬((t:Int)<t):=by omega
       rw [<- oB.out] at kg;have Fk:=tJ kt Jb y2 zO zO;have ct:=Fk.cell;go_wp2_with fail
       refine (HMx.out _).mono ?_;rintro e w8 ⟨rfl,ra⟩;replace kv:=ma kv ra;replace kg:=ma kg ra;replace De:=yb De ra zR;replace Jb:=PG Jb (bO ra hswr);go_wp2_with fail
       go_roundw
       case rel=>exact ⟨i+1,_,zO,by go_num,by rw [<- HXN.out],kv,kg,De,Jb⟩
       case measure=>simp [intOf];omega
    ·obtain rfl:i=R:=by omega
     have q2:¬((i:Int)<i):=by omega
     rw [<- HKSk.out] at kg;have klr:=tJ kl Jb y1 zO zO;have Wa:=IQ ba Jb zO zO zO;have hx:=OC (N:=gs+1) (gb:=vB) oa (fun x hx=>by obtain ⟨m,-,rfl⟩:=Ie.1 hx;exact HFX.out m) zO (fun q e=>by cases e)
     rw [Nv.out] at hx;have Ug:=zH (show ∀ j,j<k+1 -> Bi (gs+1) vB wr (uf xs k x j) (Ch L.p i Na j) from fun j hj=>by
      unfold uf;split
      ·rename_i h;rw [h];exact hx
      ·rename_i h
       refine nu (ux.out j zO) tC fun b h1 h2 _=>Jb.2 b h2 zO zO)
     have zx:=zH (show ∀ j,k+1 <= j -> uf xs k x j=ve vB 0 0 from fun j hj=>by
      unfold uf;rw [mb zO];exact HTD.out j zO)
     clear hx oa;go_wp2_with fail
     go_roundw
     case rel=>exact ⟨k+1,uf xs k x,zO,by go_num,by rw [HFE.out],klr,Fk,kv,kg,Ug.out,zx.out,Wa,zO⟩
     case measure=>simp [intOf];omega
  ·obtain rfl:k=3:=by omega
   have h0:=RM (uw 0 zO);have h1:=RM (uw 1 zO);have h2:=RM (uw 2 zO);obtain ⟨A1,c1,e1⟩:=Sg h0;obtain ⟨A2,c2,e2⟩:=Sg h1;obtain ⟨A3,c3,e3⟩:=Sg h2;have hS:=UL kg (fun m _=>HKX.out 3 m) (by simp [maxLen];omega)
   rw [<- pz.out] at hS;have HH:=zH (fun (w':vv) (hb:vz wr.1.size wr w')=>aT.out V0 (xs 0) (xs 1) (xs 2) _ _ _ _ w' (iX (Sa hb hS) (Sa hb h0) (Sa hb h1) (Sa hb h2)))
   rw [e1,e2,e3,pz.out] at kv HH;have cl:=kl.cell;have cv:=kv.cell;have ll:=kl.lt;have lv:=kv.lt;clear uw XE h0 h1 h2 hS e1 e2 e3;go_wp2_with fail
   refine (HH.out _ (Bb _ _)).mono ?_;rintro e w9 ⟨v,rfl,hv,ra⟩;go_wp2;go_ret
   exact ⟨v,rfl,hv,pa ba ra⟩
def DS (s pu x:Nat) (t:Int × Nat):Int:=if t.1-1-(pu:Int)=s then (x:Int)*t.2 else 0
theorem zHJ {p:Nat} (hp:1<p) (pu x:Nat) (f:Nat -> Nat) (t:Int × Nat) (s:Nat):Cg p (Zw p pu x f t s:Int) ((f s:Int)-DS s pu x t):=by
 unfold Zw DS;by_cases h:0 <= t.1-1-(pu:Int)
 ·rw [Gb h]
  by_cases e:t.1-1-(pu:Int)=s
  ·rw [Gb e,e,Dn]
   unfold ui;rw [Gb rfl];refine (Cg.mod _).trans ((Cg.of_eq (Vv _ _)).trans ?_);refine (Cg.rfl'.add ((GO p _ zO).trans ?_)).trans (Cg.of_eq (Int.sub_eq_add_neg).symm);exact Cg.neg ((Cg.mod _).trans (Cg.of_eq (Th _ _)))
  ·rw [mb e]
   unfold ui;rw [mb zO];exact Cg.of_eq zO
 ·rw [mb h,mb zO]
  exact Cg.of_eq zO
theorem qX {p:Nat} {a b t u:Int} (h:Cg p a (b-t)):Cg p (a-u) (b-(t+u)):=by
 obtain ⟨c,hc⟩:=h;exact ⟨c,zO⟩
theorem U5 {p:Nat} {a t u:Int} (h:Cg p a (-t)):Cg p (a-u) (-(t+u)):=by
 obtain ⟨c,hc⟩:=h;exact ⟨c,zO⟩
theorem eX {p:Nat} (hp:1<p) (pu x:Nat) (f:Nat -> Nat) (ts:List (Int × Nat)) (s:Nat):∀ n,Cg p (uq p pu x f ts n s:Int) ((f s:Int)-sc (fun t=>DS s pu x (ts.getD t (0,0))) n)
 | 0=>Cg.of_eq (by rw [sc];show (f s:Int)=_;omega)
 | n+1=>by
  rw [sc];refine (zHJ hp pu x _ _ s).trans ?_;exact qX (eX hp pu x f ts s n)
def rP (p pu n Na:Nat) (rows:List Ya) (s j i:Nat):Int:=sc (fun t=>DS s pu (Na^(j*n+i)%p) ((Cd (rows.getD i ⟨[],[],[]⟩) j).getD t (0,0))) (Cd (rows.getD i ⟨[],[],[]⟩) j).length
theorem Z9 {p:Nat} (hp:1<p) (pu n Na:Nat) (rows:List Ya) (i:Nat) (f:Nat -> Nat) (s:Nat):∀ j,Cg p (QC p pu n Na (rows.getD i ⟨[],[],[]⟩) i f j s:Int) ((f s:Int)-sc (fun j=>rP p pu n Na rows s j i) j)
 | 0=>Cg.of_eq (by rw [sc];show (f s:Int)=_;omega)
 | j+1=>by
  rw [sc];refine (eX hp pu _ _ _ s _).trans ?_;exact qX (Z9 hp pu n Na rows i f s j)
theorem Y9 {p:Nat} (hp:1<p) (pu n Na:Nat) (rows:List Ya) (s:Nat):∀ i,Cg p (cL p pu n Na rows i s:Int) (-(sc (fun i=>sc (fun j=>rP p pu n Na rows s j i) 3) i))
 | 0=>Cg.of_eq rfl
 | i+1=>by
  rw [sc];refine (Z9 hp pu n Na rows i _ s 3).trans ?_;exact U5 (Y9 hp pu n Na rows s i)
theorem nZ {p:Nat} (hp:1<p) (pu n Na:Nat) (rows:List Ya) (k:Nat) (f:Nat -> Nat) (s:Nat):∀ i,Cg p (TN p pu n Na rows k f i s:Int) ((f s:Int)-sc (fun i=>rP p pu n Na rows s k i) i)
 | 0=>Cg.of_eq (by rw [sc];show (f s:Int)=_;omega)
 | i+1=>by
  rw [sc];refine (eX hp pu _ _ _ s _).trans ?_;exact qX (nZ hp pu n Na rows k f s i)
theorem oZ {p:Nat} (hp:1<p) (pu n Na:Nat) (rows:List Ya) (s:Nat):∀ k,Cg p (kJ p pu n Na rows k s:Int) (-(sc (fun k=>sc (fun i=>rP p pu n Na rows s k i) n) k))
 | 0=>Cg.of_eq rfl
 | k+1=>by
  rw [sc];refine (nZ hp pu n Na rows k _ s n).trans ?_;exact U5 (oZ hp pu n Na rows s k)
theorem zHl {p:Nat} (hp:1<p) (pu n Na:Nat) (rows:List Ya) (s:Nat):∀ i,cL p pu n Na rows i s<p:=by
 have hT:∀ (x:Nat) (f:Nat -> Nat) ts t,(∀ k,f k<p) -> ∀ k,uq p pu x f ts t k<p:=fun x f ts t hf=>by
  induction t with
  | zero=>exact hf
  | succ t ih =>
   intro k;show Zw p pu x (uq p pu x f ts t) _ k<_
   unfold Zw;split
   ·unfold ui
    split
    ·exact Ic _ zO
    ·exact ih k
   ·exact ih k
 have hS:∀ r i (f:Nat -> Nat),(∀ k,f k<p) -> ∀ j k,QC p pu n Na r i f j k<p:=fun r i f hf j=>by
  induction j with
  | zero=>exact hf
  | succ j ih=>exact hT _ _ _ _ ih
 have hR:∀ i k,cL p pu n Na rows i k<p:=fun i=>by
  induction i with
  | zero=>intro k;show 0<p;omega
  | succ i ih=>exact hS _ _ _ ih 3
 exact fun i=>hR i s
theorem zB6 {p:Nat} (hp:1<p) (pu n Na:Nat) (rows:List Ya) (s:Nat):∀ k,kJ p pu n Na rows k s<p:=by
 have hT:∀ (x:Nat) (f:Nat -> Nat) ts t,(∀ k,f k<p) -> ∀ k,uq p pu x f ts t k<p:=fun x f ts t hf=>by
  induction t with
  | zero=>exact hf
  | succ t ih =>
   intro k;show Zw p pu x (uq p pu x f ts t) _ k<_
   unfold Zw;split
   ·unfold ui
    split
    ·exact Ic _ zO
    ·exact ih k
   ·exact ih k
 have hI:∀ k (f:Nat -> Nat),(∀ s,f s<p) -> ∀ i s,TN p pu n Na rows k f i s<p:=fun k f hf i=>by
  induction i with
  | zero=>exact hf
  | succ i ih=>exact hT _ _ _ _ ih
 have hK:∀ k s,kJ p pu n Na rows k s<p:=fun k=>by
  induction k with
  | zero=>intro s;show 0<p;omega
  | succ k ih=>exact hI _ _ ih n
 exact fun k=>hK k s
theorem zHk {p:Nat} (hp:1<p) (pu Na:Nat) (rows:List Ya) (n s:Nat):cL p pu n Na rows n s=kJ p pu n Na rows 3 s:=by
 refine Cg.eq (p:=p) ((Y9 hp pu n Na rows s n).trans (Cg.trans (Cg.of_eq ?_) (oZ hp pu n Na rows s 3).symm)) (zHl hp _ _ _ _ _ _) (zB6 hp _ _ _ _ _ _);rw [AS (fun i j=>rP p pu n Na rows s j i) 3 n]
theorem zBQ {L:Xa} (hp:1<L.p) (pu Na:Nat) (rows:List Ya):ML L pu Na rows=Bl L pu Na rows:=by
 unfold ML Bl;rw [NB fun s _=>zHk hp pu Na rows rows.length s]
theorem iW {p:Nat} {n:Int} {l:List (Int × Nat)} (h:Xi p n l=true):∀ t∈l,0 <= t.1 /\ t.1<n:=fun t ht=>by
 obtain ⟨i,hi,rfl⟩:=jt ht;unfold Xi at h;have h1:=Wg.1 h i (Lm.2 hi);have e:l.getD i (0,0)=l[i]:=by rw [Gc,Dc hi];rfl
 unfold Yt at h1;rw [e] at h1;simp only [uo,Bool.or_eq_false_iff,XB] at h1;omega
theorem zAT {p:Nat} {pub vars:Int} {rows:List Ya} (h:Ad p pub vars rows=true):LD vars rows:=fun r hr k hk t ht=>by
 unfold Ad at h;rw [Pd] at h;have h1:=Wg.1 h.2 r hr;unfold xp at h1;rw [Pd,Pd] at h1;unfold Cd at ht;rcases (show k=0 \/ k=1 \/ k=2 by omega) with e | e | e <;> subst e
 ·exact iW h1.1.1 t ht
 ·exact iW h1.1.2 t ht
 ·exact iW h1.2 t ht
theorem vX {L:Xa} {p pu:Nat} {vars bl bw qs:Int} {rows:List Ya} (h:Ad p (pu:Int) vars rows=true) (hF:aw L ⟨p,(pu:Int),vars,rows.length,bl,bw,qs⟩):Px L pu vars rows:=by
 simp only [Ad,Pd,uo,XB] at h;have h1:L.rows=rows.length:=by rw [hF.eq];rfl
 have h2:L.secret=(vars-1-(pu:Int)).toNat:=by rw [hF.eq];rfl
 have h3:=hF.vars;simp only at h3;exact ⟨h1,zO,zO⟩
def wtF (p:Nat) (cs:List (List Nat)) (i:Nat):List Nat:=(List.range (cs.getD i []).length).map (Wt p (cs.getD i []) 1)
def sn (p:Nat) (cs:List (List Nat)):List (List Nat):=(List.range cs.length).map (wtF p cs)
theorem eU (L:Xa) (pu Na:Nat) (rows:List Ya):(Bl L pu Na rows).length=L.a+L.b+L.b+L.b:=by
 unfold Bl Ct;rw [MG,MG,MG,MG];simp [Qq,Le]
theorem fU {L:Xa} {pu Na:Nat} {rows:List Ya}:∀ r∈Bl L pu Na rows,r.length=L.block:=fun r h=>by
 unfold Bl at h;obtain ⟨i,k,-,-,rfl⟩:=aZ h;simp [RD]
theorem zGL (L:Xa) (pu Na:Nat) (vars:Int) (A:Option vx) (R c:Nat) (rows:List Ya) (w:vv) (hL:ed L) (hF:Px L pu vars rows) (hr:RSl 3 Ue w [ve A R c] rows) (hV:LD vars rows) :
  vA prog 114 #[vf (Eb L),Kc L.p (pu:Int) vars (ve A R c),vd vq Na] w fun e w'=>∃ v,e=vn v /\ Ye w' [v] (sn L.p (Bl L pu Na rows)) /\ vz w.1.size w w':=by
 obtain ⟨Lc,Nb⟩:=tc hL.p;have Ew:=hL.a;have Fw:=hL.b;have Da:=hL.b2;obtain ⟨hlen,-⟩:=RH hL;have HC:=zH (fun w' (hb:vz w.1.size w w')=>zF9 L pu Na vars A R c rows w' hL hF (jg Qg _ _ _ _ hb hr) hV)
 have HI:=zH (fun A c l w hl=>K8 L.p 1 L.block A c l w hL.p hl hlen (by rw [Om zO];decide))
 have HIL:=zH (show ∀ l,∀ x∈(List.range L.block).map (Wt L.p l 1),x<18446744073709551616 from fun l x hx=>by
  obtain ⟨i,-,rfl⟩:=Ie.1 hx;exact gg (L3 zO _ _ _) Nb)
 obtain ⟨Zg,cH⟩:=zEX (Bl L pu Na rows);have mB:=zH (show Zg.length <= 400000 by rw [cH,eU];omega)
 have Qy:=zH (show ∀ r∈Zg,r.length=L.block by rw [cH];exact fU)
 rw [<- cH] at HC |-;obtain ⟨f,hf⟩:=zEX (wtF L.p Zg);have nB:=zH (show ∀ i (h:i<Zg.length),f i=(List.range L.block).map (Wt L.p Zg[i] 1) from fun i h=>by
  rw [hf];unfold wtF;rw [ZB h,Qy.out _ (pg h)])
 have Yl:=zH (rS f);have gN:=zH (show sn L.p Zg=(List.range Zg.length).map f by rw [hf];rfl)
 rw [gN.out];clear cH hf hL hF hr hV Ew Fw hlen Lc Nb gN;unfold Eb Kc at *;obtain ⟨kl,kt,ba,-⟩:=ig w 38 25 #[vd vq L.p,vd vt L.block,vd vt L.queries,vd vt L.k,vd vt L.n,vd vt L.secret,vd vt L.rows,vd vt L.a,vd vt L.b,vd vt L.b,vd vt L.b] #[vd vq L.p,vd vt pu,vd vt vars,ve A R c];go_enter func114,ntmps114
 go_upto_region 1 with fail
 generalize (w.alloc _).alloc _=w1 at kl kt ba |-;have cl:=kl.cell;have ct:=kt.cell;go_wp2_with fail
 refine (HC.out _ ba).mono ?_;rintro e w2 ⟨vC,rfl,hC,ra⟩;replace kl:=ma kl ra;replace ba:=pa ba ra;clear ra cl ct kt HC;obtain ⟨AC,nC,cC,rfl⟩:=RSl.slc hC;obtain ⟨hCn,-,-,hCd⟩:=Ki hC;have gC:(nC:Int) <= 400000:=by have:=mB.out;omega
 have HCN:=zH hCn;clear hCn hC;go_wp2_with fail
 go_loopw [7,9] (fun u y wr=>∃ (i:Nat) (v:vw) (cs:List vw),v=u /\ i <= nC /\ y=vd vt i /\ wr.ownsRow w2.1.size 28 1 v i cs /\ qh 0 wr v cs ((List.range i).map f) /\ vz w2.1.size w2 wr) (fun _ y _=>nC-(intOf y).toNat)
 case atStart=>exact ⟨0,_,[],rfl,Rb _,rfl,⟨rfl, .inl ⟨rfl,rfl⟩⟩,wJ _ _ _,Bb _ _⟩
 case round =>
  obtain ⟨i,v,cs,rfl,hi,rfl,oa,Ra,hb⟩:=hrel;by_cases ta:i<nC
  ·have q1:(i:Int)<nC:=by omega
   have q2:(0:Int)<=i:=by omega
   have Xo:i<Zg.length:=by rw [HCN.out];exact ta
   obtain ⟨b1,Ik,A1,n1,c1,rfl,Vm,yd,Pf⟩:=yp hCd Xo;have z1:=(Mb Pf).1;have Fg:n1=L.block:=by rw [z1];exact Qy.out _ (pg Xo)
   subst Fg;have ue:=Sa hb Pf;have OD:=(hb.cell (p:=⟨b1,Ik+i,vB⟩) Vm).trans yd;have mF:b1<wr.1.size:=Be Vm hb.size;have Mk:=zH (nB.out i Xo);have HRi:=zH (Yl.out i);obtain ⟨x,hx⟩:=zEX (Zg[i]);rw [<- hx] at ue Mk;have HLx:=zH (HIL.out x);rw [<- Mk.out] at HLx;have Ov:Hid (∀ w':vv,RWd w' [ve A1 L.block c1] x -> vA prog 179 #[vd vq L.p,ve A1 L.block c1,vd vq 1] w' fun e w2=>∃ v,e=vn (.tuple #[v,vd vt 0]) /\ w2.ownsRow w'.1.size 22 1 v L.block (Qa (f i)) /\ vz w'.1.size w' w2):=zH (fun w' h=>by rw [Mk.out];exact HI.out A1 c1 x w' h)
   obtain ⟨fi,Tk⟩:=zEX (f i);rw [<- Tk] at HLx Ov HRi;clear hx z1 yd Pf Tk Mk;have rp:=ma kl hb;have cl:=rp.cell;have ll:=rp.lt;go_upto_region 6 with fail
   refine Yc (yc) [6] [0,1,2,3,4,5,6,7,8,9,10,11] zK zK ?_;refine Td (ya) ?_;intro Wc Ca da;have Ma:=Lf Ca;replace oa:=yb oa Ma zR;replace Ra:=Bg Ra Ma;replace hb:=pa hb Ma;replace ue:=Sa Ma ue;refine dc ?_;refine pd ya rfl rfl rfl ((Ov.out _ ue).mono ?_);rintro e w7 ⟨v7,rfl,o7,Vb⟩;refine ⟨_,rfl,Vb,?_⟩;replace da:=zM ya da (Vb);refine zPU ?_;obtain ⟨A7,c7,rfl,-⟩:=mc o7;have hx:=OC (N:=0) (gb:=v.ownBlock) o7 HLx.out (Rb _) (fun q e=>(oa.lt q e).2)
   replace oa:=yb oa Vb zR;replace Ra:=Bg Ra Vb;replace hb:=pa hb Vb;refine dc ?_;refine Ec ?_;clear Ma Vb da Ca OD mF cl ll ue o7;go_wp2_with (at_builtin;refine fe rfl _ _ rfl jw rfl (oa.alloc _) rfl (mh _ _ _) (by intro u hu;simp at hu;subst hu;rfl) zO (by simp;have:=hb.size;omega) ?_)
   intro v' wn Va Ja tb;have ja:=zA w7 (.cells #[ve A7 L.block c7] 28);have Cl:=Ee (oa.alloc _) Ja (by simp;have:=hb.size;omega)
   replace Ra:=Bg Ra ja;replace hx:=nu hx ja.size (fun b _ h2 _=>ja.block b h2)
   have Xh:=eE Ra hx Ja (by simpa using tb)
   rw [HRi.out] at Xh;replace hb:=(pa hb ja).trans Cl;clear ja Ja tb Cl Ra hx oa;go_wp2
   go_roundw
   case rel=>exact ⟨i+1,v',_,rfl,zO,by go_num,Va,Xh,hb⟩
   case measure=>simp [intOf];omega
  ·obtain rfl:i=nC:=by omega
   have q1:¬((i:Int)<i):=by omega
   have jM:=vJ Ra oa;go_wp2;go_ret
   exact ⟨_,rfl,by rw [HCN.out];exact jM,ba.trans (hb.mono ba.size)⟩
theorem zGC (L:Xa) (D0 D1 D2 D3 D4 AM:Option vx) (n0 n1 n2 n3 n4 nM k0 k1 k2 k3 k4 cM:Nat) (m r:List (List Nat)) (w:vv) (hL:ed L)
  (hm:Ye w [ve AM nM cM] m) (hr:Ye w [ve D0 n0 k0] r)
  (hlen:m.length=r.length) (zj:∀ x∈m,x.length=L.block) (af:∀ x∈r,x.length <= 2000) (hT:m.length <= 400000) :
  vA prog 109 #[vf (Eb L),ve AM nM cM,vf #[ve D0 n0 k0,ve D1 n1 k1,ve D2 n2 k2,ve D3 n3 k3,ve D4 n4 k4]] w fun e w'=>∃ v,e=vn v /\ Ye w' [v] ((List.range m.length).map (mu L m r)) /\ vz w.1.size w w':=by
 have Kh:=tc hL.p;obtain ⟨qH,-,-,hMd⟩:=Ki hm;obtain ⟨TE,-,-,mf⟩:=Ki hr;subst qH;subst TE;have OP:=zH (fun A B n c m d msg zh w hl hk hn hm=>V8 L A B n c m d msg zh w hL hl hk hn hm)
 have JI:=zH (show ∀ a b,∀ x∈Xw L a b,x<18446744073709551616 from fun a b=>YR zO fun x hx=>gg (IS zO hx) Kh.2)
 have Jg:=zH hlen;have rB:=zH zj;have Sh:=zH af;have Yl:=zH (rS (mu L m r));have HRG:=zH (show ∀ i (h1:i<m.length) (h2:i<r.length),Xw L m[i] r[i]=mu L m r i from fun i h1 h2=>by
  unfold mu;rw [Gc,Gc,Dc h1,Dc h2]
  rfl)
 obtain ⟨rf,nA⟩:=zEX (mu L m r);rw [<- nA] at Yl HRG |-;clear hL hlen zj af Kh nA hm hr;unfold Eb at *;obtain ⟨kl,kc,ba,db⟩:=ig w 38 41 #[vd vq L.p,vd vt L.block,vd vt L.queries,vd vt L.k,vd vt L.n,vd vt L.secret,vd vt L.rows,vd vt L.a,vd vt L.b,vd vt L.b,vd vt L.b] #[ve D0 r.length k0,ve D1 n1 k1,ve D2 n2 k2,ve D3 n3 k3,ve D4 n4 k4];go_enter func109,ntmps109
 go_upto_region 1 with fail
 generalize (w.alloc _).alloc _=w1 at kl kc ba db |-;obtain ⟨N,hN⟩:=zEX (w1.1.size);have x1:w.1.size<N:=by omega
 have x2:w.1.size+1<N:=by omega
 have x3:w.1.size≠N:=by omega
 have x4:w.1.size+1≠N:=by omega
 have Ed:N <= w1.1.size:=by omega
 clear db hN;go_wp2_with fail
 go_loopw [7,8] (fun u y wr=>∃ (i:Nat) (v:vw) (cs:List vw),v=u /\ i <= m.length /\ y=vd vt i /\ Blk wr w.1.size 38 #[vd vq L.p,vd vt L.block,vd vt L.queries,vd vt L.k,vd vt L.n,vd vt L.secret,vd vt L.rows,vd vt L.a,vd vt L.b,vd vt L.b,vd vt L.b] /\ Blk wr (w.1.size+1) 41 #[ve D0 r.length k0,ve D1 n1 k1,ve D2 n2 k2,ve D3 n3 k3,ve D4 n4 k4] /\ wr.ownsRow N 28 1 v i cs /\ qh 0 wr v cs ((List.range i).map rf) /\ vz w.1.size w wr /\ N <= wr.1.size) (fun _ y _=>m.length-(intOf y).toNat)
 case atStart=>exact ⟨0,_,[],rfl,Rb _,rfl,kl,kc,⟨rfl, .inl ⟨rfl,rfl⟩⟩,wJ _ _ _,ba,Ed⟩
 case round =>
  clear kl kc ba Ed;obtain ⟨i,v,cs,rfl,hi,rfl,kl,kc,oa,Ra,ba,Ed⟩:=hrel;by_cases ta:i<m.length
  ·have q1:(0:Int)<=i:=by omega
   have q2:(i:Int)<m.length:=by omega
   have CE:i<r.length:=by have:=Jg.out;omega
   have q3:(i:Int)<r.length:=by omega
   obtain ⟨bm,qm,Am,lm,cm,rfl,TU,iO,tO⟩:=yp hMd ta;have hcm:=(ba.cell (p:=⟨bm,qm+i,vB⟩) TU).trans iO;have oA:=Sa ba tO;obtain ⟨br,qr,Ar,lr,cr,rfl,UU,lO,uO⟩:=yp mf CE;have Qz:=(ba.cell (p:=⟨br,qr+i,vB⟩) UU).trans lO;have Ym:=Sa ba uO;have x5:bm<N:=by omega
   have x6:br<N:=by omega
   have x7:bm≠N:=by omega
   have x8:br≠N:=by omega
   have z1:=(Mb oA).1;have z2:=(Mb Ym).1;have z3:lm=L.block:=by have:=rB.out _ (pg ta);omega
   have z4:lr <= 2000:=by have:=Sh.out _ (pg CE);omega
   have HC:=zH (fun w' (hb:vz wr.1.size wr w')=>OP.out Am Ar lm cm lr cr m[i] r[i] w' (Sa hb oA) (Sa hb Ym) z3 zO)
   have HRI:=zH (HRG.out i ta CE);have nB:=zH (Yl.out i);have NI:=zH (JI.out m[i] r[i]);rw [HRI.out] at HC NI;clear z1 z2 z3 z4 tO uO iO lO oA Ym CE HRI;have cl:=kl.cell;have ll:=kl.lt;have cc:=kc.cell;have lc:=kc.lt;have lbm:bm<wr.1.size:=by omega
   have lbr:br<wr.1.size:=by omega
   obtain ⟨fi,Tk⟩:=zEX (rf i);rw [<- Tk] at HC NI nB;clear Tk;go_upto_region 5 with fail
   refine Yc (Gp N N) [11,12,13] [0,1,2,3,4,5,6,7,8,9,10,11,12,13,14] zK zK ?_;refine Td (Tb N N) ?_;intro Wc Ca da;have Ma:=Lf Ca;have ld:N <= Wc.1.size:=by have:=Ma.size;omega
   replace kl:=ma kl Ma;replace kc:=ma kc Ma;replace oa:=yb oa Ma zR;replace Ra:=Bg Ra Ma;replace ba:=pa ba Ma;refine yu ?_;refine pd (Tb N N) rfl rfl rfl ((HC.out _ Ma).mono ?_);rintro e w7 ⟨va,rfl,Ut,Vb⟩;refine ⟨_,rfl,Mf Vb ld,?_⟩;replace da:=zM (Tb N N) da (Mf Vb ld);refine zPU ?_;obtain ⟨Av,cv,rfl,-⟩:=mc Ut;have fq:∀ q,v.ownBlock=vD q -> q<Wc.1.size:=fun q e=>(oa.lt q e).2
   have Df:N <= w7.1.size:=by have:=Vb.size;omega
   have hx:=OC (N:=0) (gb:=v.ownBlock) Ut NI.out (Rb _) fq;replace kl:=ma kl Vb;replace kc:=ma kc Vb;replace oa:=yb oa Vb zR;replace Ra:=Bg Ra Vb;replace ba:=pa ba Vb;clear Ut fq Vb da HC Ma Ca ld cl ll cc lc;refine yu ?_;refine Bd (Tb N N) rfl rfl rfl ?_;go_simp;have ja:=zA w7 (.cells #[ve Av fi.length cv] 28);have Ka:=mh w7 (ve Av fi.length cv) 28;refine ⟨Mf ja Df,?_⟩;replace kl:=ma kl ja;replace kc:=ma kc ja;replace oa:=yb oa ja zR;replace Ra:=Bg Ra ja;replace ba:=pa ba ja;replace hx:=nu hx ja.size (fun b _ h2 _=>ja.block b h2)
   have Dl:=Cb Df ja.size
   refine zPU ?_
   generalize w7.alloc _=w8 at kl kc oa Ra hx ba Ka Dl |-;generalize w7.1.size=g7 at Ka |-;clear ja Df;have da:=(Tb N N).refl w8;refine yu ?_;refine Bd (Tb N N) rfl rfl rfl ?_;refine Iv _ _ rfl jw rfl oa rfl Ka (by intro u hu;simp at hu;subst hu;rfl) zO Dl ?_
   intro v' wn Va Ja tb;have Jc:∀ q,v.ownBlock=vD q -> N <= q:=fun q e=>(oa.lt q e).1
   refine ⟨Xx Ja Dl Jc,?_⟩;have Xh:=eE Ra hx Ja tb;rw [nB.out] at Xh;replace kl:=kl.grown Ja (fun e=>by first | (have:=Jc _ e;omega) | (have:=Jc _ e.symm;omega))
   replace kc:=kc.grown Ja (fun e=>by first | (have:=Jc _ e;omega) | (have:=Jc _ e.symm;omega))
   replace ba:=ba.trans ((Ee oa Ja Dl).mono zO);have Di:N <= wn.1.size:=by have:=Ja.size;omega
   clear oa Ra hx Ja tb Jc Dl Ka da;have da:=(Tb N N).refl wn
   refine zPU ?_
   refine yu ?_;refine Ec ?_;go_wp2
   go_roundw
   case rel=>exact ⟨i+1,v',_,rfl,zO,by go_num,kl,kc,Va,Xh,ba,Di⟩
   case measure=>simp [intOf];omega
  ·obtain rfl:i=m.length:=by omega
   have q2:¬((m.length:Int)<m.length):=by omega
   have jM:=vJ Ra oa;go_wp2;go_ret
   exact ⟨_,rfl,jM,ba⟩
def SF (p n Na:Nat) (ws:List Nat) (r:Ya) (i s:Nat):Nat -> Nat
 | 0=>s
 | j+1=>(SF p n Na ws r i s j+Na^(j*n+i)%p*Bj p (Cd r j) ws%p)%p
def kL (p n Na:Nat) (ws:List Nat) (rows:List Ya):Nat -> Nat
 | 0=>0
 | i+1=>SF p n Na ws (rows.getD i ⟨[],[],[]⟩) i (kL p n Na ws rows i) 3
def tgI (p n Na:Nat) (ws:List Nat) (rows:List Ya) (k s:Nat):Nat -> Nat
 | 0=>s
 | i+1=>(tgI p n Na ws rows k s i+Na^(k*n+i)%p*Bj p (Cd (rows.getD i ⟨[],[],[]⟩) k) ws%p)%p
def gI (p n Na:Nat) (ws:List Nat) (rows:List Ya):Nat -> Nat
 | 0=>0
 | k+1=>tgI p n Na ws rows k (gI p n Na ws rows k) n
def lL (p n Na:Nat) (ws:List Nat) (rows:List Ya) (k i:Nat):Int:=((Na^(k*n+i)%p:Nat):Int)*((Bj p (Cd (rows.getD i ⟨[],[],[]⟩) k) ws:Nat):Int)
theorem fY {p:Nat} {a:Nat} {s:Int} (h:Cg p (a:Int) s) (x y:Nat):Cg p (((a+x*y%p)%p:Nat):Int) (s+(x:Int)*y):=by
 refine (Cg.mod _).trans ((Cg.of_eq (Vv _ _)).trans ?_);exact h.add ((Cg.mod _).trans (Cg.of_eq (Th _ _)))
theorem zAy {p:Nat} (n Na:Nat) (ws:List Nat) (rows:List Ya) (i s:Nat):∀ j,Cg p (SF p n Na ws (rows.getD i ⟨[],[],[]⟩) i s j:Int) ((s:Int)+sc (fun j=>lL p n Na ws rows j i) j)
 | 0=>Cg.of_eq (by rw [sc];show (s:Int)=_;omega)
 | j+1=>by
  rw [sc];refine (fY (zAy n Na ws rows i s j) _ _).trans (Cg.of_eq ?_);unfold lL;omega
theorem zAw {p:Nat} (n Na:Nat) (ws:List Nat) (rows:List Ya):∀ i,Cg p (kL p n Na ws rows i:Int) (sc (fun i=>sc (fun j=>lL p n Na ws rows j i) 3) i)
 | 0=>Cg.rfl'
 | i+1=>by
  rw [sc];exact (zAy n Na ws rows i _ 3).trans ((zAw n Na ws rows i).add Cg.rfl')
theorem zAt {p:Nat} (n Na:Nat) (ws:List Nat) (rows:List Ya) (k s:Nat):∀ i,Cg p (tgI p n Na ws rows k s i:Int) ((s:Int)+sc (fun i=>lL p n Na ws rows k i) i)
 | 0=>Cg.of_eq (by rw [sc];show (s:Int)=_;omega)
 | i+1=>by
  rw [sc];refine (fY (zAt n Na ws rows k s i) _ _).trans (Cg.of_eq ?_);unfold lL;omega
theorem zAu {p:Nat} (n Na:Nat) (ws:List Nat) (rows:List Ya):∀ k,Cg p (gI p n Na ws rows k:Int) (sc (fun k=>sc (fun i=>lL p n Na ws rows k i) n) k)
 | 0=>Cg.rfl'
 | k+1=>by
  rw [sc];exact (zAt n Na ws rows k _ n).trans ((zAu n Na ws rows k).add Cg.rfl')
theorem tgS_lt {p:Nat} (hp:0<p) (n Na:Nat) (ws:List Nat) (r:Ya) (i:Nat) {s:Nat} (hs:s<p):∀ j,SF p n Na ws r i s j<p
 | 0=>hs
 | _+1=>Ic _ hp
theorem zAx {p:Nat} (hp:0<p) (n Na:Nat) (ws:List Nat) (rows:List Ya):∀ i,kL p n Na ws rows i<p
 | 0=>hp
 | i+1=>tgS_lt hp _ _ _ _ _ (zAx hp n Na ws rows i) 3
theorem tgI_lt {p:Nat} (hp:0<p) (n Na:Nat) (ws:List Nat) (rows:List Ya) (k:Nat) {s:Nat} (hs:s<p):∀ i,tgI p n Na ws rows k s i<p
 | 0=>hs
 | _+1=>Ic _ hp
theorem zAv {p:Nat} (hp:0<p) (n Na:Nat) (ws:List Nat) (rows:List Ya):∀ k,gI p n Na ws rows k<p
 | 0=>hp
 | k+1=>tgI_lt hp _ _ _ _ _ (zAv hp n Na ws rows k) n
theorem zHM {p:Nat} (hp:0<p) (n Na:Nat) (ws:List Nat) (rows:List Ya):kL p n Na ws rows n=gI p n Na ws rows 3:=by
 refine Cg.eq (p:=p) ((zAw n Na ws rows n).trans (Cg.trans (Cg.of_eq ?_) (zAu n Na ws rows 3).symm)) (zAx hp _ _ _ _ _) (zAv hp _ _ _ _ _);exact AS (fun i j=>lL p n Na ws rows j i) 3 n
theorem zFp (p:Nat) (A B:Option vx) (len c n d:Nat) (l:List (Int × Nat)) (ws:List Nat) (w:vv) (hl:RLin w [ve A len c] l) (hw:RWd w [ve B n d] ws) (hp:jc p=true) :
  vA prog 150 #[vd vq p,ve A len c,ve B n d] w fun e w'=>e=vn (vd vq (Bj p l ws:Nat)) /\ vz w.1.size w w':=by
 obtain ⟨A',n',c',he,hlen,Ce,Eg,Ka⟩:=hl;simp at he
 obtain ⟨rfl,rfl,rfl⟩:=he;subst hlen;obtain ⟨B',m',d',he,Jt,hmy,Zm,jy⟩:=hw;simp at he
 obtain ⟨rfl,rfl,rfl⟩:=he;have hm:ws.length=n:=by have:=Zm.len1;rwa [pF] at this
 subst hm;have g0:(l.length:Int) <= 9223372036854775807:=by
  simp [maxLen] at Eg
  omega
 have HA:=zH (fun a b w=>Su p a b w hp)
 have HM:=zH (fun a b w=>YD p a b w hp)
 have HW:=zH (fun (k:Nat) (hk:k<ws.length)=>(MC Zm zO).imp fun b' h=>h.imp fun q' h=>(⟨h.1,h.2.1,(h.2.2 k hk).trans (bJ hk)⟩:_ /\ _ /\ _=vD (vd vq (ws[k]:Int))))
 clear Jt hmy Zm jy Ce Eg hp;unfold fv at *;obtain ⟨kf,ba⟩:=zN w 250 #[vd vq p];go_enter func150,ntmps150
 go_wp2_with fail
 generalize w.alloc _=w1 at kf ba |-;go_loopw [8,15] (fun s i wr=>∃ j:Nat,j <= l.length /\ i=vd vt j /\ s=vd vq (Bj p (l.take j) ws:Nat) /\ Blk wr w.1.size 250 #[vd vq p] /\ vz w.1.size w wr)
  (fun _ i _=>l.length-(intOf i).toNat)
 case atStart=>exact ⟨0,Rb _,rfl,rfl,kf,ba⟩
 case round =>
  clear kf ba;obtain ⟨j,hj,rfl,rfl,kf,hb⟩:=hrel;by_cases ta:j<l.length
  ·have HS:=zH (D5 p l ws j ta)
   revert HS
   generalize Bj p (l.take j) ws=s;intro HS;obtain ⟨b,q,rfl⟩:=Ka.base zO zO;obtain ⟨c1,c2⟩:=RLin.at_ (Ka.below fF hb) ta;have Zb:=Af _ _ c1;have g1:(0:Int)<=j:=by omega
   have g2:(j:Int)<l.length:=by omega
   revert c1 c2 HS
   generalize hx:(l.getD j (0,0))=t;obtain ⟨x,y⟩:=t;clear hx;simp only;intro HS c1 c2;obtain ⟨ja,kx⟩:=(zN wr 191 #[vd vt x,vd vq y]).symm;by_cases z1:x<0
   ·have d1:decide (0 <= x)=false:=Ib zO
    have HE:=zH (show Bj p (l.take (j+1)) ws=s by rw [HS.out,FA,mb zT])
    clear HS HW;go_wp2_with fail
    replace kf:=ma kf ja;replace hb:=pa hb ja
    go_roundw
    case rel=>exact ⟨j+1,zO,by go_num,by rw [HE.out],kf,hb⟩
    case measure=>simp [intOf];omega
   ·obtain ⟨k,rfl⟩:=Zl (show 0 <= x by omega)
    have d1:decide ((0:Int)<=k)=true:=Qb zO;by_cases z2:k<ws.length
    ·have d2:decide ((k:Int)<ws.length)=true:=Qb zO
     obtain ⟨b',q',rfl,Un,c3⟩:=HW.out k z2;have HE:=zH (show Bj p (l.take (j+1)) ws=(s+y*ws[k]%p)%p by rw [HS.out,FA,Gb zT];show (s+y*ws.getD ((k:Int)).toNat 0%p)%p=_;rw [Dn,Gc,Dc z2,Option.getD_some])
     clear HW HS;revert c3 HE
     generalize ws[k]=v;intro c3 HE;obtain ⟨m,hm⟩:=zEX (y*v%p);obtain ⟨r,hr⟩:=zEX ((s+m)%p);rw [<- hm,<- hr] at HE;have og:=zH (fun w=>by have:=HM.out y v w;rw [<- hm] at this;exact this)
     have ie:=zH (fun w=>by have:=HA.out s m w;rw [<- hr] at this;exact this)
     have i1:(0:Int)<=k:=by omega
     have i2:(k:Int)<ws.length:=by omega
     clear hm hr;go_upto_region 7 with fail
     replace kf:=ma kf ja;replace hb:=pa hb ja;generalize wr.alloc _=w6 at kf kx hb |-;generalize wr.1.size=gx at kx |-;replace c3:=(hb.cell (p:=⟨b',q'+k,vB⟩) Un).trans c3;have lb3:b'<w6.1.size:=Be Un hb.size;have cf:=kf.cell;have lf:=kf.lt;have cx:=kx.cell;have lx:=kx.lt;clear ja c1 c2 Zb;refine Yc (yc) [10,11] [0,1,2,3,4,5,6,7,8,9,10,11,12] zK zK ?_;refine Td (ya) ?_;intro Wc Ca da;have Ma:=Lf Ca;refine dc ?_;refine pd ya rfl rfl rfl ((og.out _).mono ?_);rintro e w7 ⟨rfl,Vb⟩;refine ⟨_,rfl,Vb,?_⟩;replace da:=zM ya da (Vb);refine zPU ?_;refine dc ?_;refine pd ya rfl rfl rfl ((ie.out _).mono ?_);rintro e w8 ⟨rfl,ud⟩;refine ⟨_,rfl,ud,?_⟩;replace da:=zM ya da (ud);refine zPU ?_;refine dc ?_;refine Ec ?_;have OJ:=pa (pa Ma Vb) ud;replace kf:=ma kf OJ;replace hb:=pa hb OJ;clear OJ Ma Vb ud da Ca c3 lb3 cf lf cx lx;go_wp2_with fail
     go_roundw
     case rel=>exact ⟨j+1,zO,by go_num,by rw [HE.out],kf,hb⟩
     case measure=>simp [intOf];omega
    ·have d2:decide ((k:Int)<ws.length)=false:=Ib zO
     have HE:=zH (show Bj p (l.take (j+1)) ws=s by rw [HS.out,FA,mb zT])
     clear HS HW;go_wp2_with fail
     replace kf:=ma kf ja;replace hb:=pa hb ja
     go_roundw
     case rel=>exact ⟨j+1,zO,by go_num,by rw [HE.out],kf,hb⟩
     case measure=>simp [intOf];omega
  ·obtain rfl:j=l.length:=by omega
   have g2:¬((l.length:Int)<l.length):=by omega
   go_wp2;go_ret
   exact ⟨rfl,hb⟩
theorem zFo (L:Xa) (pu Na:Nat) (vars:Int) (A B:Option vx) (R c d:Nat) (rows:List Ya) (pub:List Nat) (w:vv) (hL:ed L) (hF:Px L pu vars rows) (hr:RSl 3 Ue w [ve A R c] rows) (Ll:RWd w [ve B pu d] pub) :
  vA prog 196 #[vf (Eb L),Kc L.p (pu:Int) vars (ve A R c),ve B pu d,vd vq Na] w fun e w'=>e=vn (vd vq (kL L.p rows.length Na (1 :: pub) rows rows.length:Int)) /\ vz w.1.size w w':=by
 obtain ⟨A',n',c',he,Of,Ce,Ef,Ka⟩:=hr;simp at he
 obtain ⟨rfl,rfl,rfl⟩:=he;have Ym:=hL.r;have OE:=hF.nr;have VE:=hF.small;have hR:R=rows.length:=Of.symm;have hLR:L.rows=R:=by omega
 have Oy:=zH (fun w=>AY L pu vars A R c rows w hL hF Of)
 have sG:=zH (fun n w hn=>sU L.p Na n w hL.p hn)
 have HM:=zH (fun a b w=>YD L.p a b w hL.p)
 have HA:=zH (fun a b w=>Su L.p a b w hL.p)
 have HVl:=zH (fun A len c l B n d ws w hl hw=>zFp L.p A B len c n d l ws w hl hw hL.p)
 obtain ⟨pw,Vj⟩:∃ pw:Nat -> Nat,pw=fun i=>Na^i%L.p:=⟨_,rfl⟩
 have mT:=zH (show (fun i=>Na^i%L.p)=pw from Vj.symm)
 obtain ⟨Jy,aR⟩:=zEX (1 :: pub);obtain ⟨fR,zE⟩:=zEX (kL L.p rows.length Na Jy rows);have rD:=zH (show fR 0=0 by rw [zE];rfl)
 have Fq:=zH (show ∀ i (hi:i<rows.length),fR (i+1)=SF L.p R Na Jy rows[i] i (fR i) 3 from fun i hi=>by
  rw [zE,hR];show SF L.p rows.length Na Jy (rows.getD i ⟨[],[],[]⟩) i _ 3=_
  rw [Gc,Dc hi]
  rfl)
 have KI:=zH (show ∀ (r:Ya) i s j,SF L.p R Na Jy r i s (j+1)=(SF L.p R Na Jy r i s j+pw (j*R+i)*Bj L.p (Cd r j) Jy%L.p)%L.p from fun r i s j=>by rw [Vj];rfl)
 have gN:=zH (show kL L.p rows.length Na (1 :: pub) rows rows.length=fR R by rw [zE,hR,aR])
 rw [gN.out];have HW1:=zH (show [1]++pub=Jy from aR.symm)
 have Og:=(Mb Ll).1;have Pc:=zH (show ∀ x∈Jy,x<18446744073709551616 from fun x hx=>by
  rw [aR] at hx;rcases Ij.1 hx with h | h
  ·rw [h];decide
  ·exact (Mb Ll).2.2.2.1 x h)
 have hrp:=(Mb Ll).2.2.2.2;obtain ⟨R3,hR3⟩:=zEX (3*R);have e1:(3:Int)*R=(R3:Int):=by omega
 have e2:=Ud R3;have d0:((pu:Int)!=pu)=false:=by simp
 have gR:R <= 16384:=by omega
 have gR3:R3 <= 65536:=by omega
 have tG:=zH hR3;have tD:=zH hR;have uD:=zH (show pu <= 4294967296 by omega)
 clear Vj zE hL hF Ym OE VE hR3 Ce Ef Of hR gN aR Og;unfold Eb Kc fv at *;rw [hLR] at Oy |-;clear hLR;obtain ⟨kl,kt,ba,-⟩:=ig w 121 25 #[vd vq L.p,vd vt L.block,vd vt L.queries,vd vt L.k,vd vt L.n,vd vt L.secret,vd vt R,vd vt L.a,vd vt L.b,vd vt L.b,vd vt L.b] #[vd vq L.p,vd vt pu,vd vt vars,ve A R c];go_enter func196,ntmps196
 go_upto_region 1 with fail
 generalize (w.alloc _).alloc _=w1 at kl kt ba |-;have cl:=kl.cell;have ct:=kt.cell;go_wp2_with fail
 refine (Oy.out _).mono ?_;rintro e w2 ⟨rfl,ra⟩;replace kl:=ma kl ra;replace kt:=ma kt ra;replace ba:=pa ba ra;clear ra cl ct Oy;have cl:=kl.cell;have ct:=kt.cell;go_upto_region 4 with fail
 obtain ⟨kf,ja⟩:=zN w2 250 #[vd vq L.p];replace kl:=ma kl ja;replace kt:=ma kt ja;replace ba:=pa ba ja;generalize w2.alloc _=w3 at kl kt kf ba |-;generalize w2.1.size=gf at kf |-;clear ja cl ct;have cl:=kl.cell;have cf:=kf.cell;go_wp2_with fail
 refine (sG.out R3 _ zO).mono ?_;rintro e w4 ⟨gp,rfl,-,kp,ra⟩;rw [mT.out] at kp;replace kl:=ma kl ra;replace kt:=ma kt ra;replace kf:=ma kf ra;replace ba:=pa ba ra;clear ra cl cf sG;have kh:=World.ownsRow_lit (base:=w4.1.size) (e:=22) (size:=1) w4 #[vd vq 1] 1 zR (by simp [maxLen]) rfl
 have ja:=zA w4 (.cells #[vd vq 1] 22);go_wp2_with (at_builtin;refine fe rfl _ _ rfl Ag rfl kh rfl ((hrp.below ba).alloc _) (Gf pub) (zQ uD.out) zS ?_)
 intro vk w5 oa Ja tb;have Cl:=Ee kh Ja zS;replace Cl:=ja.trans Cl;have De:w5.ownsRow w4.1.size 22 1 vk (1+pu) (Qa Jy):=Ii (a:=[1]) oa HW1.out;obtain ⟨Ak,ck,rfl,-⟩:=mc De;have hk:=Yf De Pc.out;obtain ⟨nk,tH⟩:=zEX (1+pu);rw [<- tH] at hk |-;replace kl:=ma kl Cl;replace kt:=ma kt Cl;replace kf:=ma kf Cl;replace kp:=ma kp Cl;replace ba:=pa ba Cl;clear Cl kh ja oa Ja tb De tH;have ct:=kt.cell;have gRi:(R:Int) <= 16384:=by omega
 go_wp2_with fail
 clear ct;go_loopw [13,45] (fun s y wr=>∃ i:Nat,i <= R /\ y=vd vt i /\ s=vd vq (fR i:Int) /\ vz w5.1.size w5 wr) (fun _ y _=>R-(intOf y).toNat)
 case atStart=>exact ⟨0,Rb _,rfl,by rw [rD.out];rfl,Bb _ _⟩
 case round =>
  obtain ⟨i,hi,rfl,rfl,hb⟩:=hrel;by_cases ta:i<R
  ·have q1:(i:Int)<R:=by omega
   have q2:(0:Int)<=i:=by omega
   have Fi:i<rows.length:=by have:=tD.out;omega
   obtain ⟨b,q,rfl⟩:=Ka.base zO zO;obtain ⟨cs,-,hc,x,y,z,rfl,Zc,ff,Zd⟩:=Ka.get Fi;have Nf:=pa ba hb;have te:=Af _ _ ((hc 0 zO).trans (show [x,y,z][0]?=vD x from rfl))
   have h0:=(Nf.cell (p:=⟨b,q+i*3+0,vB⟩) te).trans (hc 0 zO);have h1:=(Nf.cell (p:=⟨b,q+i*3+1,vB⟩) te).trans (hc 1 zO);have h2:=(Nf.cell (p:=⟨b,q+i*3+2,vB⟩) te).trans (hc 2 zO);rw [ot] at h0;simp only [List.getElem?_cons_zero,List.getElem?_cons_succ] at h0 h1 h2;have nN:=zH (Fq.out i Fi);have LI:=zH (KI.out rows[i] i (fR i));obtain ⟨fS,TJ⟩:=zEX (SF L.p R Na Jy rows[i] i (fR i));have Hq:=zH (show fR i=fS 0 by rw [TJ];rfl)
   rw [<- TJ] at nN LI;have Mp:=zH (show ∀ k,k<3 -> RLin w [if k=0 then x else if k=1 then y else z] (Cd rows[i] k) from fun k hk=>by
    unfold Cd;rcases (show k=0 \/ k=1 \/ k=2 by omega) with h | h | h <;> subst h
    ·exact Zc
    ·exact ff
    ·exact Zd)
   obtain ⟨sd,Lw⟩:=zEX (Cd rows[i]);rw [<- Lw] at LI Mp;obtain ⟨A1,n1,c1,rfl⟩:=RSl.slc Zc;obtain ⟨A2,n2,c2,rfl⟩:=RSl.slc ff;obtain ⟨A3,n3,c3,rfl⟩:=RSl.slc Zd;have ja:=zA wr (.cells #[ve A1 n1 c1,ve A2 n2 c2,ve A3 n3 c3] 186);clear hc Zc ff Zd TJ Lw Nf;have Zb:=Af _ _ h0;rw [Hq.out];go_wp2_with fail
   go_loopw [13,57] (fun s y wq=>∃ j:Nat,j <= 3 /\ y=vd vt j /\ s=vd vq (fS j:Int) /\ vz w5.1.size w5 wq) (fun _ y _=>3-(intOf y).toNat)
   case atStart=>exact ⟨0,zO,rfl,rfl,pa hb ja⟩
   case round =>
    clear hb h0 h1 h2 ja Zb;obtain ⟨j,hj,rfl,rfl,hb⟩:=hrel;by_cases Sj:j<3
    ·have q3:(j:Int)<3:=by omega
     have q4:(0:Int)<=j:=by omega
     have Wi:=Mp.out j Sj;have ix:=fun w=>AO (w:=w) (x:=ve A1 n1 c1) (y:=ve A2 n2 c2) (z:=ve A3 n3 c3) Sj
     obtain ⟨dL,Se⟩:=zEX ((if j=0 then ve A1 n1 c1 else if j=1 then ve A2 n2 c2 else ve A3 n3 c3))
     rw [<- Se] at Wi ix;have AB:=zH (LI.out j);obtain ⟨ts,tv⟩:=zEX (sd j);rw [<- tv] at Wi AB;obtain ⟨jr,FE⟩:=zEX (j*R);obtain ⟨m,hm⟩:=zEX (jr+i);rw [<- FE,<- hm] at AB;have kV:jr <= 2*R:=by rw [FE];exact JD _ zO
     have z1:(j:Int)*R=(jr:Int):=by rw [FE];exact (Th _ _).symm
     have z2:=Ud jr;have z3:(jr:Int)+i=(m:Int):=by omega
     have z4:=Ud m;have eo:m<R3:=by have:=tG.out;omega
     have z5:(m:Int)<R3:=by omega
     have z6:(0:Int)<=m:=by omega
     clear Se tv FE hm kV;obtain ⟨As,ns,pc,rfl⟩:=RSl.slc Wi;obtain ⟨px,sr⟩:=zEX (pw m);obtain ⟨s0,Qt⟩:=zEX (fS j);obtain ⟨s1,Nc⟩:=zEX (fS (j+1));obtain ⟨u,hu⟩:=zEX (Bj L.p ts Jy);obtain ⟨v,hv⟩:=zEX (px*u%L.p);rw [<- sr,<- Qt,<- Nc,<- hu,<- hv] at AB;have HV1:Hid (∀ w':vv,vz w5.1.size w5 w' -> vA prog 150 #[vd vq L.p,ve As ns pc,ve Ak nk ck] w' fun e w2=>e=vn (vd vq u) /\ vz w'.1.size w' w2):=zH (fun w' Hh=>by rw [hu];exact HVl.out As ns pc ts Ak nk ck Jy w' (mn _ _ _ _ (pa ba Hh) Wi) (Sa Hh hk))
     have og:Hid (∀ w:vv,vA prog 168 #[vf #[vd vq L.p],vd vq px,vd vq u] w fun e w'=>e=vn (vd vq v) /\ vz w.1.size w w'):=zH (fun w=>by rw [hv];exact HM.out px u w)
     have ie:Hid (∀ w:vv,vA prog 195 #[vf #[vd vq L.p],vd vq s0,vd vq v] w fun e w'=>e=vn (vd vq s1) /\ vz w.1.size w w'):=zH (fun w=>by rw [AB.out];exact HA.out s0 v w)
     have ai:=zH Nc;have Vf:=ma kf hb;have AK:=ma kp hb;have rp:=ma kl hb;have cf:=Vf.cell;have lf:=Vf.lt;have QD:=AK.cell m;rw [Pn _ eo,<- sr] at QD;have lp:=AK.lt;have cl:=rp.cell;have ll:=rp.lt;rw [<- Qt];clear sr Qt Nc hu hv Vf AK rp Wi AB;go_upto_region 14 with fail
     refine Yc (yc) [15,16,17] [0,1,2,3,4,5,6,7,8,9,10,11,12,13,14,15,16,17,18] zK zK ?_;refine Td (ya) ?_;intro Wc Ca da;have Ma:=Lf Ca;replace hb:=pa hb Ma;refine dc ?_;refine pd ya rfl rfl rfl ((HV1.out _ hb).mono ?_);rintro e w6 ⟨rfl,Mc⟩;refine ⟨_,rfl,Mc,?_⟩;replace da:=zM ya da (Mc);refine zPU ?_;replace hb:=pa hb Mc;refine dc ?_;refine pd ya rfl rfl rfl ((og.out _).mono ?_);rintro e w7 ⟨rfl,Vb⟩;refine ⟨_,rfl,Vb,?_⟩;replace da:=zM ya da (Vb);refine zPU ?_;replace hb:=pa hb Vb;refine dc ?_;refine pd ya rfl rfl rfl ((ie.out _).mono ?_);rintro e w8 ⟨rfl,ud⟩;refine ⟨_,rfl,ud,?_⟩;replace da:=zM ya da (ud);refine zPU ?_;replace hb:=pa hb ud;refine dc ?_;refine Ec ?_;clear Ma Mc Vb ud da Ca cf lf QD lp cl ll;go_wp2_with fail
     go_roundw
     case rel=>exact ⟨j+1,zO,by go_num,by rw [ai.out],hb⟩
     case measure=>simp [intOf];omega
    ·obtain rfl:j=3:=by omega
     go_wp2_with fail
     go_roundw
     case rel=>exact ⟨i+1,zO,by go_num,by rw [nN.out],hb⟩
     case measure=>simp [intOf];omega
  ·obtain rfl:i=R:=by omega
   have q1:¬((i:Int)<i):=by omega
   go_wp2;go_ret
   exact ⟨rfl,pa ba hb⟩
end Go.Proofs.YtodmnanljoaocaaGreat
