/- A part of the proof. No condition. -/
import Derived.Test.YteoghgbnielkpaaGreatPP13
import Derived.Test.YteoghgbnielkpaaGreatPP12

set_option maxRecDepth 100000
set_option maxHeartbeats 8000000
set_option linter.unusedVariables false
set_option linter.unusedSimpArgs false
namespace Go.Proofs.YteoghgbnielkpaaGreat
open Go.RowKit
open Tryz
open Go renaming World->vu, Value->vw, Addr->vx, TypeId->vy, Calls->vA
open Go.Value renaming int->vd, slice->ve, agg->vf
open Go.IntKind renaming u64->vo, i64->vq
open Go.Ending renaming returned->vn
open Go.RowKit renaming Below->vz
open Go.Act renaming put->vF
open Option renaming none->vB, some->vD
def LO (p pu n Mb:Nat) (rows:List sc) (k:Nat) (f:Nat -> Nat):Nat -> (Nat -> Nat)
 | 0=>f
 | i+1=>Gq p pu (Mb^(k*n+i)%p) (LO p pu n Mb rows k f i) (Od (rows.getD i ⟨[],[],[]⟩) k) (Od (rows.getD i ⟨[],[],[]⟩) k).length
def QJ (p pu n Mb:Nat) (rows:List sc):Nat -> (Nat -> Nat)
 | 0=>fun _=>0
 | k+1=>LO p pu n Mb rows k (QJ p pu n Mb rows k) n
def Qs (L:Tb) (pu Mb:Nat) (rows:List sc):List (List Nat) :=
 ar L.block (ye ((List.range L.secret).map (QJ L.p pu rows.length Mb rows 3)) (Sh L.p rows.length Mb 0) (Sh L.p rows.length Mb 1) (Sh L.p rows.length Mb 2)) (ye L.a L.b L.b L.b)
def XB (g h N:Nat) (w w':vu):Prop:=vz 0 w w' /\ ∀ b,b<N -> b≠g -> b≠h -> w'.1[b]?=w.1[b]?
theorem zDA (g h N:Nat) (w:vu):XB g h N w w:=⟨Kb _ _,fun _ _ _ _=>rfl⟩
theorem oH {g h N:Nat} {a b c:vu} (x:XB g h N a b) (y:XB g h N b c):XB g h N a c:=⟨x.1.trans y.1,fun k h1 h2 h3=>(y.2 k h1 h2 h3).trans (x.2 k h1 h2 h3)⟩
theorem ZO {g h N B:Nat} {a b:vu} (x:vz B a b) (hN:N <= B):XB g h N a b:=⟨x.mono (Qb _),fun k h1 _ _=>x.block k zO⟩
theorem JV {g h N:Nat} {a b:vu} {u:Option Nat} (x:a.grownBy b u) (hu:∀ q,u=vD q -> q=g \/ q=h \/ N <= q) (hN:N <= a.1.size):XB g h N a b :=
 ⟨dH x 0 (Qb _) (fun _ _=>Qb _),fun k h1 h2 h3=>x.block k zO (fun e=>by
  rcases hu k e.symm with e1 | e1 | e1 <;> omega)⟩
theorem YJ {g h N b:Nat} {w w':vu} {t:vy} {cs:Array vw} (k:Blk w b t cs) (x:XB g h N w w') (hb:b<N) (h1:b≠g) (h2:b≠h):Blk w' b t cs:=by
 unfold Blk at *;rw [x.2 b hb h1 h2];exact k
theorem UR {g h N B:Nat} {a b c:vu} (fF:vz B a b) (x:XB g h N b c) (hN:B <= N) (h1:B <= g) (h2:B <= h):vz B a c :=
 fF.trans ⟨x.1.os,x.1.tape,x.1.output,x.1.size,fun k hk=>x.2 k zO zO zO⟩
theorem zGE (L:Tb) (pu Mb:Nat) (vars:Int) (A:Option vx) (R c:Nat) (rows:List sc) (w:vu) (hL:Ad L) (hF:GC L pu vars rows) (hr:RSl 3 yg w [ve A R c] rows) (hV:VG vars rows) :
  vA prog 85 #[vf (Ub L),Xc L.p (pu:Int) vars (ve A R c),vd vo Mb] w fun e w'=>∃ v,e=vn v /\ Kd w' [v] (Qs L pu Mb rows) /\ vz w.1.size w w':=by
 obtain ⟨A',n',c',he,Me,Nd,ki,Na⟩:=hr;simp at he
 obtain ⟨rfl,rfl,rfl⟩:=he;have hs:=hL.s;have Gm:=hL.r;have kD:=hF.nr;have Jx:=hF.sec;have Nv:=hF.small;have hR:R=rows.length:=Me.symm;have gR:R <= 16384:=by omega
 have py:=zH (fun x y z w hx hy hz=>zAf x y z w hx hy hz)
 have HM:=zH (fun a b w=>Bz L.p a b w hL.p)
 have HS:=zH (fun a b w=>zAg L.p a b w hL.p)
 have bO:=zH (fun v0 v1 v2 v3 l0 l1 l2 l3 w h=>zGI L v0 v1 v2 v3 l0 l1 l2 l3 w hL h)
 obtain ⟨pw,Nr⟩:∃ pw:Nat -> Nat,pw=fun i=>Mb^i%L.p:=⟨_,rfl⟩
 have HPX:=zH (show ∀ i,pw i<18446744073709551616 from fun i=>by rw [Nr];exact Je (Sc _ (zQ (Cc hL.p))) (Cc hL.p).2)
 have Io:=zH (show pw 0=1 by rw [Nr];show Mb^0%L.p=1;rw [Nat.pow_zero];exact Lk (zQ (Cc hL.p)))
 have im:=zH (show ∀ i,pw i*Mb%L.p=pw (i+1) from fun i=>by rw [Nr];show Mb^i%L.p*Mb%L.p=Mb^(i+1)%L.p;rw [Nat.mod_mul_mod,Zg])
 obtain ⟨fK,hfK⟩:=zEX (QJ L.p pu rows.length Mb rows);obtain ⟨fI,hfI⟩:=zEX (fun k=>LO L.p pu rows.length Mb rows k (fK k))
 have HK0:=zH (show fK 0=fun _=>0 by rw [hfK];rfl)
 have Df:=zH (show ∀ k,fK (k+1)=fI k R from fun k=>by rw [hfI,hfK,hR];rfl)
 have HI0:=zH (show ∀ k,fI k 0=fK k from fun k=>by rw [hfI];rfl)
 have HIS:=zH (show ∀ k i (hi:i<rows.length),fI k (i+1)=Gq L.p pu (pw (k*R+i)) (fI k i) (Od rows[i] k) (Od rows[i] k).length from fun k i hi=>by
  have e:rows.getD i ⟨[],[],[]⟩=rows[i]:=by rw [Hc,Ec hi];rfl
  rw [hfI,hR,Nr];show Gq L.p pu (Mb^(k*rows.length+i)%L.p) _ (Od (rows.getD i ⟨[],[],[]⟩) k) (Od (rows.getD i ⟨[],[],[]⟩) k).length=_
  rw [e])
 have Vb:=(Cc hL.p).2;have HT:=zH (show ∀ (x:Nat) (f:Nat -> Nat) ts t,(∀ k,f k<L.p) -> ∀ k,Gq L.p pu x f ts t k<L.p from fun x f ts t hf=>by
  induction t with
  | zero=>exact hf
  | succ t ih =>
   intro k;show Vx L.p pu x (Gq L.p pu x f ts t) _ k<_
   unfold Vx;split
   ·unfold sg
    split
    ·exact Sc _ (zQ (Cc hL.p))
    ·exact ih k
   ·exact ih k)
 have HI:=zH (show ∀ k,(∀ s,fK k s<L.p) -> ∀ i,i <= rows.length -> ∀ s,fI k i s<L.p from fun k hk i=>by
  induction i with
  | zero=>intro _;rw [HI0.out];exact hk
  | succ i ih=>intro hi;rw [HIS.out k i zO];exact HT.out _ _ _ _ (ih zO))
 have HKX:=zH (show ∀ k s,fK k s<18446744073709551616 from fun k=>by
  have:∀ k s,fK k s<L.p:=fun k=>by
   induction k with
   | zero=>intro s;rw [HK0.out];have:=Cc hL.p;show 0<_;omega
   | succ k ih=>rw [Df.out];exact HI.out k ih R zO
  exact fun s=>Je (this k s) Vb)
 have dy:=zH (show Qs L pu Mb rows=ar L.block (ye ((List.range L.secret).map (fK 3)) (Sh L.p R Mb 0) (Sh L.p R Mb 1) (Sh L.p R Mb 2)) (ye L.a L.b L.b L.b) by rw [hfK,hR];rfl)
 have lh:=zH (show ∀ k,(List.range R).map (fun i=>pw (k*R+i))=Sh L.p R Mb k from fun k=>by rw [Nr];rfl)
 have HVa:=zH (show ∀ i (hi:i<rows.length) k,k<3 -> ∀ t (ht:t<(Od rows[i] k).length),0 <= ((Od rows[i] k).getD t (0,0)).1 /\ ((Od rows[i] k).getD t (0,0)).1<vars from fun i hi k hk t ht=>by
  rw [Hc,Ec ht];exact hV _ (Qe hi) k hk _ (Qe ht))
 have rU:=zH (And.intro Jx Nv);have HRR:=zH hR;have mk:=Rv L.secret zO;have gs1:(L.secret:Int) <= 65536:=by omega
 have gs0:(0:Int)<=L.secret:=by omega
 have gRi:(R:Int) <= 16384:=by omega
 rw [dy.out];clear hV Nr hfK hfI hF hs Gm kD Jx Nv Vb dy HT HI Nd ki Me hR hL;unfold Ub Xc at *;obtain ⟨kl,kt,da,-⟩:=Xf w 35 25 #[vd vo L.p,vd vq L.block,vd vq L.queries,vd vq L.k,vd vq L.n,vd vq L.secret,vd vq L.rows,vd vq L.a,vd vq L.b,vd vq L.b,vd vq L.b] #[vd vo L.p,vd vq pu,vd vq vars,ve A R c];go_enter func85,ntmps85
 go_upto_region 1 with fail
 generalize (w.alloc _).alloc _=w1 at kl kt da |-;have CP:=kt.lt;go_upto_region 2 with fail
 obtain ⟨kv,ma⟩:=zN w1 219 #[ve vB 0 0,ve vB 0 0,ve vB 0 0,ve vB 0 0];replace kl:=pa kl ma;replace kt:=pa kt ma;replace da:=ta da ma;clear ma;obtain ⟨gv,Jv⟩:=zEX (w1.1.size);have mD:(w1.alloc (.cells #[ve vB 0 0,ve vB 0 0,ve vB 0 0,ve vB 0 0] 219)).1.size=gv+1:=by rw [Jv];simp
 rw [<- Jv] at kv CP |-;clear Jv;generalize w1.alloc _=w2 at kl kt kv da mD |-;have cl:=kl.cell;have cv:=kv.cell;have fv1:=kv.frozen;have lv:=kv.lt;have JG:=zH mD;clear mD;go_upto_region 3 with fail
 have mD:=JG.out;clear JG;clear cl cv fv1 lv;obtain ⟨gs,UH⟩:=zEX (w2.1.size);rw [<- UH] at mD |-;have hg:=Hh (w:=w2) gv 0 (ve (vD ⟨gs,0,vB⟩) L.secret L.secret);have mu:(w2.setCell ⟨gv,0,vB⟩ (ve (vD ⟨gs,0,vB⟩) L.secret L.secret)).1.size=gs:=by rw [UH];simp
 replace kv:=kv.set_ 0 (ve (vD ⟨gs,0,vB⟩) L.secret L.secret);replace kv:Blk (w2.setCell ⟨gv,0,vB⟩ (ve (vD ⟨gs,0,vB⟩) L.secret L.secret)) gv 219 #[ve (vD ⟨gs,0,vB⟩) L.secret L.secret,ve vB 0 0,ve vB 0 0,ve vB 0 0]:=by simpa using kv
 replace kl:=kl.grown hg (fun e=>by have:=Nb e;omega)
 replace kt:=kt.grown hg (fun e=>by have:=Nb e;omega)
 replace da:=Ee da hg;clear hg UH;generalize w2.setCell _ _=w3 at kl kt kv da mu |-;have kg:=Blk.new w3 22 (Ya L.secret fun _=>0)
 have ma:=zA w3 (.cells (Ya L.secret fun _=>0) 22)
 replace kl:=pa kl ma;replace kt:=pa kt ma;replace kv:=pa kv ma;replace da:=ta da ma;have tf:gs+1 <= (w3.alloc (.cells (Ya L.secret fun _=>0) 22)).1.size:=by simp;omega
 rw [mu] at kg;clear ma mk mu;generalize w3.alloc _=w4 at kl kt kv kg da tf |-;have n1:w.1.size<gv:=by omega
 have n2:w.1.size+1<gv:=by omega
 have n3:gv<gs:=by omega
 clear mD CP;have H1:=zH (show (1:Int)=((pw (0*R):Nat):Int) by rw [Nat.zero_mul,Io.out];rfl)
 obtain ⟨V0,jq⟩:∃ V0:vw,V0=ve (vD ⟨gs,0,vB⟩) L.secret L.secret:=⟨_,rfl⟩;have uA:=zH jq;rw [<- jq] at kv;clear jq;go_wp2_with fail
 go_loopw [8,9] (fun xv y wr=>∃ (k:Nat) (xs:Nat -> vw),k <= 3 /\ y=vd vq k /\ xv=vd vo (pw (k*R):Int) /\ Blk wr w.1.size 35 #[vd vo L.p,vd vq L.block,vd vq L.queries,vd vq L.k,vd vq L.n,vd vq L.secret,vd vq L.rows,vd vq L.a,vd vq L.b,vd vq L.b,vd vq L.b] /\ Blk wr (w.1.size+1) 25 #[vd vo L.p,vd vq pu,vd vq vars,ve A R c] /\ Blk wr gv 219 #[V0,xs 0,xs 1,xs 2] /\ Blk wr gs 22 (Ya L.secret (fK k)) /\ (∀ j,j<k -> sh (gs+1) vB wr (xs j) (Sh L.p R Mb j)) /\ (∀ j,k <= j -> xs j=ve vB 0 0) /\ vz w.1.size w wr /\ gs+1 <= wr.1.size) (fun _ y _=>3-(intOf y).toNat)
 case atStart=>exact ⟨0,fun _=>ve vB 0 0,zO,rfl,by rw [<- H1.out],kl,kt,kv,by rw [HK0.out];exact kg,fun j h=>zO,fun j _=>rfl,da,tf⟩
 case round =>
  clear kl kt kv kg da tf;obtain ⟨k,xs,hk,rfl,rfl,kl,kt,kv,kg,tx,EF,da,tf⟩:=hrel;by_cases ya:k<3
  ·have q1:(k:Int)<3:=by omega
   obtain ⟨wo,xB⟩:=zEX (wr);subst xB;have Uj:=EF k zR;have Ou:=zH tx;have HTD:=zH EF;obtain ⟨kr,Zy⟩:=zEX (k*R);have yG:=zH Zy;have HISk:=zH (show ∀ i (hi:i<rows.length),fI k (i+1)=Gq L.p pu (pw (kr+i)) (fI k i) (Od rows[i] k) (Od rows[i] k).length from fun i hi=>by rw [Zy];exact HIS.out k i hi)
   obtain ⟨fi,Wn⟩:=zEX (fI k);have HI0k:=zH (show fi 0=fK k by rw [Wn];exact HI0.out k)
   have HKSk:=zH (show fK (k+1)=fi R by rw [Wn];exact Df.out k)
   rw [<- Wn] at HISk;obtain ⟨FP,eK⟩:∃ FP:Nat -> Nat,FP=fun i=>pw (kr+i):=⟨_,rfl⟩
   have HFP:=zH (show ∀ i,pw (kr+i)=FP i from fun i=>by rw [eK])
   have cJ:=zH (show ∀ i,FP i<18446744073709551616 from fun i=>by rw [eK];exact HPX.out _)
   have HFS:=zH (show ∀ i,FP i*Mb%L.p=FP (i+1) from fun i=>by rw [eK];exact im.out _)
   have Ho:=zH (show (List.range R).map FP=Sh L.p R Mb k by rw [eK,Zy];exact lh.out k)
   have HFE:=zH (show FP R=pw ((k+1)*R) by rw [eK,Zy,Nat.succ_mul])
   have Es:=zH (show pw (k*R)=FP 0 by rw [eK,Zy];rfl)
   rw [Es.out];have NP:me xs k (ve vB 0 0)=xs:=by rw [<- Uj,zBm]
   have kv1:Blk wo gv 219 #[V0,me xs k (ve vB 0 0) 0,me xs k (ve vB 0 0) 1,me xs k (ve vB 0 0) 2]:=by rw [NP];exact kv
   have ix:=fun (w:vu) (x y z:vw)=>SP (w:=w) (x:=x) (y:=y) (z:=z) ya
   obtain ⟨k1,og⟩:=zEX (k+1);have ek:(k:Int)+1=(k1:Int):=by omega
   have TJ:=Xd k1;have Vi:=zH og;have qk:k1<4:=by omega
   have qk2:(k1:Int)<4:=by omega
   have y1:w.1.size<wo.1.size:=by omega
   have y2:w.1.size+1<wo.1.size:=by omega
   have y3:gv<wo.1.size:=by omega
   have y4:gs<wo.1.size:=by omega
   clear Uj NP tx EF kv og Zy Wn eK;have ct0:=kt.cell;go_wp2_with fail
   clear ct0;go_loopw [8,10] (fun xv y wr=>∃ (i:Nat) (x:vw),i <= R /\ y=vd vq i /\ xv=vd vo (FP i:Int) /\ Blk wr gv 219 #[V0,me xs k x 0,me xs k x 1,me xs k x 2] /\ Blk wr gs 22 (Ya L.secret (fi i)) /\ wr.ownsRow wo.1.size 22 1 x i (Qa ((List.range i).map FP)) /\ XB gv gs wo.1.size wo wr) (fun _ y _=>R-(intOf y).toNat)
   case atStart=>exact ⟨0,ve vB 0 0,zO,rfl,rfl,kv1,by rw [HI0k.out];exact kg,⟨rfl, .inl ⟨rfl,rfl⟩⟩,zDA _ _ _ _⟩
   case round =>
    clear kv1 kg;obtain ⟨i,x,hi,rfl,rfl,kv,kg,oa,Va⟩:=hrel;have nD:wo.1.size <= wr.1.size:=Va.1.size;have Vj:=YJ kt Va y2 zO zO;have ct:=Vj.cell;have lt:=Vj.lt;by_cases Ys:i<R
    ·have q2:(i:Int)<R:=by omega
     have q3:(0:Int)<=i:=by omega
     have q4:(0:Int)<=k1:=by omega
     have yk:i<rows.length:=by have:=HRR.out;omega
     obtain ⟨b,q,rfl⟩:=Na.base zO zO;obtain ⟨cs,-,hc,u0,u1,u2,rfl,jz,mz,jt⟩:=Na.get yk;have Rb:=Bg _ _ ((hc 0 zO).trans (show [u0,u1,u2][0]?=vD u0 from rfl))
     have HUC:=zH hc;have HU:=zH (show ∀ w',vz w.1.size w w' -> RLin w' [if k=0 then u0 else if k=1 then u1 else u2] (Od rows[i] k) from fun w' hb=>by
      unfold Od;rcases (show k=0 \/ k=1 \/ k=2 by omega) with h | h | h <;> subst h
      ·exact Ph _ _ _ _ hb jz
      ·exact Ph _ _ _ _ hb mz
      ·exact Ph _ _ _ _ hb jt)
     have ix1:=fun (w:vu)=>ix w u0 u1 u2
     obtain ⟨II,Ve⟩:=zEX ((if k=0 then u0 else if k=1 then u1 else u2))
     rw [<- Ve] at HU ix1;have Hi:=RSl.slc jz;have Vd:=RSl.slc mz;have Pg:=RSl.slc jt;have dO:=zH (HISk.out i yk);have HVi:=zH (HVa.out i yk k ya);obtain ⟨ts,tB⟩:=zEX (Od rows[i] k);rw [<- tB] at HU dO HVi;rw [HFP.out] at dO;have HSn:=zH (OB FP i);have HFSi:=zH (HFS.out i);obtain ⟨xm,yB⟩:=zEX (FP i);obtain ⟨xn,hxn⟩:=zEX (FP (i+1));rw [<- yB,<- hxn] at HFSi;rw [<- yB] at HSn dO |-;have HXN:=zH hxn;have HMx:=zH (fun w=>by have:=HM.out xm Mb w;rw [HFSi.out] at this;exact this)
     clear jz mz jt Ve tB yB hxn hc ix;obtain ⟨Ax,cx,rfl,-⟩:=Yb oa;have cv:wr.cell? ⟨gv,k1,vB⟩=vD (ve Ax i cx):=by
      rw [kv.cell,Vi.out,OM ya];simp [me]
     have lv:=kv.lt;have uc:∀ q,(ve Ax i cx).ownBlock=vD q -> wo.1.size <= q:=fun q e=>(oa.lt q e).1
     have ma:=zA wr (.cells #[vd vo xm] 22);go_wp2_with (at_builtin;refine Wd rfl _ _ rfl jg rfl (oa.alloc _) rfl (gg _ _ _) (De [xm]) zO zT ?_)
     intro v' wn Ua Ma Cb;have hsA:wo.1.size <= (wr.alloc (.cells #[vd vo xm] 22)).1.size:=by simp;omega
     replace kv:=pa kv ma;replace kg:=pa kg ma;replace kv:=kv.grown Ma (fun e=>by first | (have:=uc _ e;omega) | (have:=uc _ e.symm;omega))
     replace kg:=kg.grown Ma (fun e=>by first | (have:=uc _ e;omega) | (have:=uc _ e.symm;omega))
     replace Va:=oH (oH Va (ZO ma nD)) (JV Ma (fun q e=>.inr (.inr (uc q e))) hsA)
     replace Ua:wn.ownsRow wo.1.size 22 1 v' (i+1) (Qa ((List.range (i+1)).map FP)):=Qi (b:=[xm]) Ua HSn.out;obtain ⟨Aw,cw,rfl,-⟩:=Yb Ua;have hsn:wo.1.size <= wn.1.size:=Va.1.size;clear oa Ma Cb ma hsA cv lv ct lt Vj;have cv:wn.cell? ⟨gv,k1,vB⟩=vD (ve Ax i cx):=by
      rw [kv.cell,Vi.out,OM ya];simp [me]
     have fv2:=kv.frozen;have Vj:=YJ kt Va y2 zO zO;have ct:=Vj.cell;go_upto_region 11 with fail
     have Ob:=Hh (w:=wn) gv k1 (ve Aw (i+1) cw);replace kv:=kv.set_ k1 (ve Aw (i+1) cw);rw [Vi.out,UU ya,zBn,<- Vi.out] at kv;replace kg:=kg.grown Ob (fun e=>by have:=Nb e;omega)
     have je:=ui Ua Ob y3;replace Va:=oH Va (JV Ob (fun q e=>.inl (Nb e).symm) hsn)
     clear Ua Ob cv fv2 ct Vj;generalize wn.setCell _ _=w5 at kv kg je Va |-;have Bb:=UR da Va zO zO zO;have hcu:=HUC.out;have h0:=(Bb.cell (p:=⟨b,q+i*3+0,vB⟩) Rb).trans (hcu 0 zO);have h1:=(Bb.cell (p:=⟨b,q+i*3+1,vB⟩) Rb).trans (hcu 1 zO);have h2:=(Bb.cell (p:=⟨b,q+i*3+2,vB⟩) Rb).trans (hcu 2 zO);rw [Oo] at h0;simp only [List.getElem?_cons_zero,List.getElem?_cons_succ] at h0 h1 h2;have Vj:=YJ kt Va y2 zO zO;have ct:=Vj.cell;have Ix:wo.1.size <= w5.1.size:=Va.1.size;clear hcu;go_wp2_with fail
     refine (py.out u0 u1 u2 _ Hi Vd Pg).mono ?_;rintro e w6 ⟨rfl,Ca⟩;replace kv:=pa kv Ca;replace kg:=pa kg Ca;replace je:=Za je Ca zR;replace Va:=oH Va (ZO Ca Ix);clear h0 h1 h2 ct Vj Ca Bb Ix;have Lc:=UR da Va zO zO zO;obtain ⟨As,ns,Qc,rfl⟩:=RSl.slc (HU.out _ Lc);have Pe:=HU.out _ (Kb _ _);obtain ⟨A',n',c',he,Me,Nd,ki,Mi⟩:=Pe;simp at he
     obtain ⟨rfl,rfl,rfl⟩:=he;have gns:=ti Nd ki;have Qp:=zH Me;obtain ⟨fT,qF⟩:=zEX (Gq L.p pu xm (fi i) ts);have pC:=zH (show fT 0=fi i by rw [qF];rfl)
     have HTS:=zH (show ∀ t,fT (t+1)=Vx L.p pu xm (fT t) (ts.getD t (0,0)) from fun t=>by rw [qF];rfl)
     have bJ:=zH (show fi (i+1)=fT ns by rw [qF,<- Me];exact dO.out)
     clear qF Me Nd ki Lc dO;go_wp2_with fail
     go_loopw [12] (fun y wr=>∃ t:Nat,t <= ns /\ y=vd vq t /\ Blk wr gv 219 #[V0,me xs k (ve Aw (i+1) cw) 0,me xs k (ve Aw (i+1) cw) 1,me xs k (ve Aw (i+1) cw) 2] /\ Blk wr gs 22 (Ya L.secret (fT t)) /\ wr.ownsRow wo.1.size 22 1 (ve Aw (i+1) cw) (i+1) (Qa ((List.range (i+1)).map FP)) /\ XB gv gs wo.1.size wo wr) (fun y _=>ns-(intOf y).toNat)
     case atStart=>exact ⟨0,Qb _,rfl,kv,by rw [pC.out];exact kg,je,Va⟩
     case round =>
      clear kv kg je Va;obtain ⟨t,ht,rfl,kv,kg,je,Va⟩:=hrel;have hswr:wo.1.size <= wr.1.size:=Va.1.size;have ng:=UR da Va zO zO zO;by_cases xp:t<ns
      ·have q5:(t:Int)<ns:=by omega
       have q6:(0:Int)<=t:=by omega
       have pn:t<ts.length:=by rw [Qp.out];exact xp
       obtain ⟨b',q',rfl⟩:=Mi.base zO zO;obtain ⟨Lh,ai⟩:=RLin.at_ (Mi.below JF ng) pn;have hv:=HVi.out t pn;have Sm:=zH (HTS.out t);revert Lh ai hv Sm
       generalize ts.getD t (0,0)=tm;obtain ⟨v,co⟩:=tm;intro Lh ai hv Sm;simp only at Lh ai hv;have il:=Bg _ _ Lh;simp only at il;obtain ⟨v1,bh⟩:=zEX (v-1);obtain ⟨v2,Gf⟩:=zEX (v1-(pu:Int));have Jx:=rU.out;have y1':v-1=v1:=bh.symm;have y2':vq.wrap v1=v1:=uo _ zO zO;have y3':v1-(pu:Int)=v2:=Gf.symm;have y4':vq.wrap v2=v2:=uo _ zO zO;have sA:=zH (show fT (t+1)=if 0 <= v2 then sg (fT t) v2.toNat ((fT t v2.toNat+qg L.p (xm*co%L.p))%L.p) else fT t by rw [Sm.out,Gf,bh];rfl)
       have yp:v2<(L.secret:Int):=by omega
       have Vj:=YJ kt Va y2 zO zO;have ct:=Vj.cell;have lt:=Vj.lt;clear bh Gf Jx hv Sm;go_upto_region 15 with fail
       refine Pd (Rc) [] [0,1,2,3,4,5,6,7,8,9] zK zK ?_;refine oe (Da) ?_;intro Wc Ga ja;have Pa:=Uf Ga;refine Mc ?_;refine Vc ?_;have c2w:=(Pa.cell (p:=⟨b',q'+t*2+1,vB⟩) il).trans ai;replace il:=We il Pa.size;replace kv:=pa kv Pa;replace kg:=pa kg Pa;replace je:=Za je Pa zR;replace Va:=oH Va (ZO Pa hswr);clear ct lt Vj ja Lh ai;have hs7:wo.1.size <= Wc.1.size:=Va.1.size;generalize Wc=w7 at kv kg je Va c2w il hs7 |-;by_cases hz:0 <= v2
       ·have d1:decide ((0:Int) <= v2)=true:=xc hz
        obtain ⟨s,rfl⟩:=jm hz;have nu:s<L.secret:=by omega
        obtain ⟨a,ha⟩:=zEX (fT t s);obtain ⟨u,hu⟩:=zEX (xm*co%L.p);obtain ⟨r,hr⟩:=zEX ((a+qg L.p u)%L.p);have Mf:=zH (show (Ya L.secret (fT t)).setIfInBounds s (vd vo r)=Ya L.secret (fT (t+1)) by
         rw [Tt,sA.out,Lb hz,En,hr,hu,ha])
        have Kf:Hid (∀ w:vu,vA prog 181 #[vd vo L.p,vd vo xm,vd vo co] w fun e w'=>e=vn (vd vo u) /\ vz w.1.size w w'):=zH (fun w=>by rw [hu];exact HM.out xm co w)
        have zi:Hid (∀ w:vu,vA prog 180 #[vd vo L.p,vd vo a,vd vo u] w fun e w'=>e=vn (vd vo r) /\ vz w.1.size w w'):=zH (fun w=>by rw [hr];exact HS.out a u w)
        have HA:=zH ha;clear hu hr ha;go_upto_region 17 with fail
        have Vj:=YJ kt Va y2 zO zO;have ct:=Vj.cell;have lt:=Vj.lt;have cv:=kv.cell 0;have lv:=kv.lt;rw [show (#[V0,me xs k (ve Aw (i+1) cw) 0,me xs k (ve Aw (i+1) cw) 1,me xs k (ve Aw (i+1) cw) 2]:Array vw)[0]?=vD V0 from rfl,uA.out] at cv
        have cg:=kg.cell s;rw [Ei _ nu,<- HA.out] at cg;have lg:=kg.lt;refine tg (Rc) (Da) [21] [21] [0,1,2,3,4,5,6,7,8,9,10,11,12,13,14,15,16,17,18,19,20,21] zK zK ?_;refine ug (Da) ?_;intro Wc ja;refine Cd ?_;refine yd Da rfl rfl rfl rfl (fun w' hR=>Kf.out _) ?_
        refine zPU ?_;refine Cd ?_;refine yd Da rfl rfl rfl rfl (fun w' hR=>zi.out _) ?_
        refine zPU ?_;refine Cd ?_;refine Xj rfl rfl rfl rfl ?_;intro wh Tc;replace ja:=zM Da ja Tc;have Ic:=ta (Kb w7.1.size w7).drew ja;replace kv:=pa kv Ic;replace kg:=pa kg Ic;replace je:=Za je Ic zR;replace Va:=oH Va (ZO Ic hs7);clear Ic ja Tc ct lt Vj cv lv cg lg;have c3:=kg.cell s;rw [Ei _ nu] at c3;have f3:=kg.frozen;have hs8:wo.1.size <= wh.1.size:=Va.1.size;go_simp;refine ⟨fun h=>Bool.noConfusion h,?_⟩
        have hg:=Hh (w:=wh) gs s (vd vo r);replace kg:=kg.set_ s (vd vo r);rw [Mf.out] at kg;replace kv:=kv.grown hg (fun e=>by have:=Nb e;omega)
        have iu:=ui je hg y4;replace Va:=oH Va (JV hg (fun q e=>.inr (.inl (Nb e).symm)) hs8)
        clear hg f3 c3 je;generalize wh.setCell _ _=we at kg kv iu Va |-;refine Fk rfl ?_;go_wp2_with fail
        go_roundw
        case rel=>exact ⟨t+1,zO,by go_num,kv,kg,iu,Va⟩
        case measure=>simp [intOf];omega
       ·have d1:decide ((0:Int) <= v2)=false:=Xb hz
        have uU:=zH (show fT (t+1)=fT t by rw [sA.out,Gb hz])
        go_wp2_with fail
        go_roundw
        case rel=>exact ⟨t+1,zO,by go_num,kv,by rw [uU.out];exact kg,je,Va⟩
        case measure=>simp [intOf];omega
      ·obtain rfl:t=ns:=by omega
       have q5:¬((t:Int)<t):=by omega
       rw [<- bJ.out] at kg;have Vj:=YJ kt Va y2 zO zO;have ct:=Vj.cell;go_wp2_with fail
       refine (HMx.out _).mono ?_;rintro e w8 ⟨rfl,Ca⟩;replace kv:=pa kv Ca;replace kg:=pa kg Ca;replace je:=Za je Ca zR;replace Va:=oH Va (ZO Ca hswr);go_wp2_with fail
       go_roundw
       case rel=>exact ⟨i+1,_,zO,by go_num,by rw [<- HXN.out],kv,kg,je,Va⟩
       case measure=>simp [intOf];omega
    ·obtain rfl:i=R:=by omega
     have q2:¬((i:Int)<i):=by omega
     rw [<- HKSk.out] at kg;have zL:=YJ kl Va y1 zO zO;have tb:=UR da Va zO zO zO;have hx:=Dz (N:=gs+1) (gb:=vB) oa (fun x hx=>by obtain ⟨m,-,rfl⟩:=ee.1 hx;exact cJ.out m) zO (fun q e=>by cases e)
     rw [Ho.out] at hx;have kh:=zH (show ∀ j,j<k+1 -> sh (gs+1) vB wr (me xs k x j) (Sh L.p i Mb j) from fun j hj=>by
      unfold me;split
      ·rename_i h;rw [h];exact hx
      ·rename_i h
       refine Lm (Ou.out j zO) nD fun b h1 h2 _=>Va.2 b h2 zO zO)
     have qy:=zH (show ∀ j,k+1 <= j -> me xs k x j=ve vB 0 0 from fun j hj=>by
      unfold me;rw [Gb zO];exact HTD.out j zO)
     clear hx oa;go_wp2_with fail
     go_roundw
     case rel=>exact ⟨k+1,me xs k x,zO,by go_num,by rw [HFE.out],zL,Vj,kv,kg,kh.out,qy.out,tb,zO⟩
     case measure=>simp [intOf];omega
  ·obtain rfl:k=3:=by omega
   have h0:=QN (tx 0 zO);have h1:=QN (tx 1 zO);have h2:=QN (tx 2 zO);obtain ⟨A1,c1,e1⟩:=eh h0;obtain ⟨A2,c2,e2⟩:=eh h1;obtain ⟨A3,c3,e3⟩:=eh h2;have hS:=UE kg (fun m _=>HKX.out 3 m) (by simp [maxLen];omega)
   rw [<- uA.out] at hS;have HH:=zH (fun (w':vu) (hb:vz wr.1.size wr w')=>bO.out V0 (xs 0) (xs 1) (xs 2) _ _ _ _ w' (cY (Wa hb hS) (Wa hb h0) (Wa hb h1) (Wa hb h2)))
   rw [e1,e2,e3,uA.out] at kv HH;have cl:=kl.cell;have cv:=kv.cell;have ll:=kl.lt;have lv:=kv.lt;clear tx EF h0 h1 h2 hS e1 e2 e3;go_wp2_with fail
   refine (HH.out _ (Kb _ _)).mono ?_;rintro e w9 ⟨v,rfl,hv,Ca⟩;go_wp2;go_ret
   exact ⟨v,rfl,hv,ta da Ca⟩
def NT (s pu x:Nat) (t:Int × Nat):Int:=if t.1-1-(pu:Int)=s then (x:Int)*t.2 else 0
theorem zH9 {p:Nat} (hp:1<p) (pu x:Nat) (f:Nat -> Nat) (t:Int × Nat) (s:Nat):Cg p (Vx p pu x f t s:Int) ((f s:Int)-NT s pu x t):=by
 unfold Vx NT;by_cases h:0 <= t.1-1-(pu:Int)
 ·rw [Lb h]
  by_cases e:t.1-1-(pu:Int)=s
  ·rw [Lb e,e,En]
   unfold sg;rw [Lb rfl];refine (Cg.mod _).trans ((Cg.of_eq (Hw _ _)).trans ?_);refine (Cg.rfl'.add ((dQ p _ zO).trans ?_)).trans (Cg.of_eq (Int.sub_eq_add_neg).symm);exact Cg.neg ((Cg.mod _).trans (Cg.of_eq (Vh _ _)))
  ·rw [Gb e]
   unfold sg;rw [Gb zO];exact Cg.of_eq zO
 ·rw [Gb h,Gb zO]
  exact Cg.of_eq zO
theorem mY {p:Nat} {a b t u:Int} (h:Cg p a (b-t)):Cg p (a-u) (b-(t+u)):=by
 obtain ⟨c,hc⟩:=h;exact ⟨c,zO⟩
theorem S7 {p:Nat} {a t u:Int} (h:Cg p a (-t)):Cg p (a-u) (-(t+u)):=by
 obtain ⟨c,hc⟩:=h;exact ⟨c,zO⟩
theorem aY {p:Nat} (hp:1<p) (pu x:Nat) (f:Nat -> Nat) (ts:List (Int × Nat)) (s:Nat):∀ n,Cg p (Gq p pu x f ts n s:Int) ((f s:Int)-Ge (fun t=>NT s pu x (ts.getD t (0,0))) n)
 | 0=>Cg.of_eq (by rw [Ge];show (f s:Int)=_;omega)
 | n+1=>by
  rw [Ge];refine (zH9 hp pu x _ _ s).trans ?_;exact mY (aY hp pu x f ts s n)
def BQ (p pu n Mb:Nat) (rows:List sc) (s j i:Nat):Int:=Ge (fun t=>NT s pu (Mb^(j*n+i)%p) ((Od (rows.getD i ⟨[],[],[]⟩) j).getD t (0,0))) (Od (rows.getD i ⟨[],[],[]⟩) j).length
theorem zAJ {p:Nat} (hp:1<p) (pu n Mb:Nat) (rows:List sc) (i:Nat) (f:Nat -> Nat) (s:Nat):∀ j,Cg p (KD p pu n Mb (rows.getD i ⟨[],[],[]⟩) i f j s:Int) ((f s:Int)-Ge (fun j=>BQ p pu n Mb rows s j i) j)
 | 0=>Cg.of_eq (by rw [Ge];show (f s:Int)=_;omega)
 | j+1=>by
  rw [Ge];refine (aY hp pu _ _ _ s _).trans ?_;exact mY (zAJ hp pu n Mb rows i f s j)
theorem zAI {p:Nat} (hp:1<p) (pu n Mb:Nat) (rows:List sc) (s:Nat):∀ i,Cg p (fM p pu n Mb rows i s:Int) (-(Ge (fun i=>Ge (fun j=>BQ p pu n Mb rows s j i) 3) i))
 | 0=>Cg.of_eq rfl
 | i+1=>by
  rw [Ge];refine (zAJ hp pu n Mb rows i _ s 3).trans ?_;exact S7 (zAI hp pu n Mb rows s i)
theorem UZ {p:Nat} (hp:1<p) (pu n Mb:Nat) (rows:List sc) (k:Nat) (f:Nat -> Nat) (s:Nat):∀ i,Cg p (LO p pu n Mb rows k f i s:Int) ((f s:Int)-Ge (fun i=>BQ p pu n Mb rows s k i) i)
 | 0=>Cg.of_eq (by rw [Ge];show (f s:Int)=_;omega)
 | i+1=>by
  rw [Ge];refine (aY hp pu _ _ _ s _).trans ?_;exact mY (UZ hp pu n Mb rows k f s i)
theorem VZ {p:Nat} (hp:1<p) (pu n Mb:Nat) (rows:List sc) (s:Nat):∀ k,Cg p (QJ p pu n Mb rows k s:Int) (-(Ge (fun k=>Ge (fun i=>BQ p pu n Mb rows s k i) n) k))
 | 0=>Cg.of_eq rfl
 | k+1=>by
  rw [Ge];refine (UZ hp pu n Mb rows k _ s n).trans ?_;exact S7 (VZ hp pu n Mb rows s k)
theorem zHL {p:Nat} (hp:1<p) (pu n Mb:Nat) (rows:List sc) (s:Nat):∀ i,fM p pu n Mb rows i s<p:=by
 have hT:∀ (x:Nat) (f:Nat -> Nat) ts t,(∀ k,f k<p) -> ∀ k,Gq p pu x f ts t k<p:=fun x f ts t hf=>by
  induction t with
  | zero=>exact hf
  | succ t ih =>
   intro k;show Vx p pu x (Gq p pu x f ts t) _ k<_
   unfold Vx;split
   ·unfold sg
    split
    ·exact Sc _ zO
    ·exact ih k
   ·exact ih k
 have hS:∀ r i (f:Nat -> Nat),(∀ k,f k<p) -> ∀ j k,KD p pu n Mb r i f j k<p:=fun r i f hf j=>by
  induction j with
  | zero=>exact hf
  | succ j ih=>exact hT _ _ _ _ ih
 have hR:∀ i k,fM p pu n Mb rows i k<p:=fun i=>by
  induction i with
  | zero=>intro k;show 0<p;omega
  | succ i ih=>exact hS _ _ _ ih 3
 exact fun i=>hR i s
theorem zCF {p:Nat} (hp:1<p) (pu n Mb:Nat) (rows:List sc) (s:Nat):∀ k,QJ p pu n Mb rows k s<p:=by
 have hT:∀ (x:Nat) (f:Nat -> Nat) ts t,(∀ k,f k<p) -> ∀ k,Gq p pu x f ts t k<p:=fun x f ts t hf=>by
  induction t with
  | zero=>exact hf
  | succ t ih =>
   intro k;show Vx p pu x (Gq p pu x f ts t) _ k<_
   unfold Vx;split
   ·unfold sg
    split
    ·exact Sc _ zO
    ·exact ih k
   ·exact ih k
 have hI:∀ k (f:Nat -> Nat),(∀ s,f s<p) -> ∀ i s,LO p pu n Mb rows k f i s<p:=fun k f hf i=>by
  induction i with
  | zero=>exact hf
  | succ i ih=>exact hT _ _ _ _ ih
 have hK:∀ k s,QJ p pu n Mb rows k s<p:=fun k=>by
  induction k with
  | zero=>intro s;show 0<p;omega
  | succ k ih=>exact hI _ _ ih n
 exact fun k=>hK k s
theorem zHK {p:Nat} (hp:1<p) (pu Mb:Nat) (rows:List sc) (n s:Nat):fM p pu n Mb rows n s=QJ p pu n Mb rows 3 s:=by
 refine Cg.eq (p:=p) ((zAI hp pu n Mb rows s n).trans (Cg.trans (Cg.of_eq ?_) (VZ hp pu n Mb rows s 3).symm)) (zHL hp _ _ _ _ _ _) (zCF hp _ _ _ _ _ _);rw [oY (fun i j=>BQ p pu n Mb rows s j i) 3 n]
theorem zCp {L:Tb} (hp:1<L.p) (pu Mb:Nat) (rows:List sc):QA L pu Mb rows=Qs L pu Mb rows:=by
 unfold QA Qs;rw [Nw fun s _=>zHK hp pu Mb rows rows.length s]
theorem jX {p:Nat} {n:Int} {l:List (Int × Nat)} (h:Cj p n l=true):∀ t∈l,0 <= t.1 /\ t.1<n:=fun t ht=>by
 obtain ⟨i,hi,rfl⟩:=Vq ht;unfold Cj at h;have h1:=oh.1 h i (Mj.2 hi);have e:l.getD i (0,0)=l[i]:=by rw [Hc,Ec hi];rfl
 unfold xu at h1;rw [e] at h1;simp only [Mm,Bool.or_eq_false_iff,Ly] at h1;omega
theorem zBs {p:Nat} {pub vars:Int} {rows:List sc} (h:Jd p pub vars rows=true):VG vars rows:=fun r hr k hk t ht=>by
 unfold Jd at h;rw [pe] at h;have h1:=oh.1 h.2 r hr;unfold Cp at h1;rw [pe,pe] at h1;unfold Od at ht;rcases (show k=0 \/ k=1 \/ k=2 by omega) with e | e | e <;> subst e
 ·exact jX h1.1.1 t ht
 ·exact jX h1.1.2 t ht
 ·exact jX h1.2 t ht
theorem zA3 {L:Tb} {p pu:Nat} {vars bl bw qs:Int} {rows:List sc} (h:Jd p (pu:Int) vars rows=true) (hF:yy L ⟨p,(pu:Int),vars,rows.length,bl,bw,qs⟩):GC L pu vars rows:=by
 simp only [Jd,pe,Mm,Ly] at h;have h1:L.rows=rows.length:=by rw [hF.eq];rfl
 have h2:L.secret=(vars-1-(pu:Int)).toNat:=by rw [hF.eq];rfl
 have h3:=hF.vars;simp only at h3;exact ⟨h1,zO,zO⟩
def tM (p:Nat) (cs:List (List Nat)) (i:Nat):List Nat:=(List.range (cs.getD i []).length).map (tu p (cs.getD i []) 1)
def Hp (p:Nat) (cs:List (List Nat)):List (List Nat):=(List.range cs.length).map (tM p cs)
theorem YU (L:Tb) (pu Mb:Nat) (rows:List sc):(Qs L pu Mb rows).length=L.a+L.b+L.b+L.b:=by
 unfold Qs ar;rw [Jy,Jy,Jy,Jy];simp [Yp,ye]
theorem ZU {L:Tb} {pu Mb:Nat} {rows:List sc}:∀ r∈Qs L pu Mb rows,r.length=L.block:=fun r h=>by
 unfold Qs at h;obtain ⟨i,k,-,-,rfl⟩:=dV h;simp [QC]
theorem zHj (L:Tb) (pu Mb:Nat) (vars:Int) (A:Option vx) (R c:Nat) (rows:List sc) (w:vu) (hL:Ad L) (hF:GC L pu vars rows) (hr:RSl 3 yg w [ve A R c] rows) (hV:VG vars rows) :
  vA prog 174 #[vf (Ub L),Xc L.p (pu:Int) vars (ve A R c),vd vo Mb] w fun e w'=>∃ v,e=vn v /\ Kd w' [v] (Hp L.p (Qs L pu Mb rows)) /\ vz w.1.size w w':=by
 obtain ⟨Sd,Vb⟩:=Cc hL.p;have du:=hL.a;have Jr:=hL.b;have Fa:=hL.b2;obtain ⟨hlen,-⟩:=EL hL;have HC:=zH (fun w' (hb:vz w.1.size w w')=>zGE L pu Mb vars A R c rows w' hL hF (Qg Bh _ _ _ _ hb hr) hV)
 have HI:=zH (fun A c l w hl=>V9 L.p 1 L.block A c l w hL.p hl hlen (by rw [Lk zO];decide))
 have HIL:=zH (show ∀ l,∀ x∈(List.range L.block).map (tu L.p l 1),x<18446744073709551616 from fun l x hx=>by
  obtain ⟨i,-,rfl⟩:=ee.1 hx;exact Je (O5 zO _ _ _) Vb)
 obtain ⟨fj,eD⟩:=zEX (Qs L pu Mb rows);have ey:=zH (show fj.length <= 400000 by rw [eD,YU];omega)
 have Sz:=zH (show ∀ r∈fj,r.length=L.block by rw [eD];exact ZU)
 rw [<- eD] at HC |-;obtain ⟨f,hf⟩:=zEX (tM L.p fj);have aJ:=zH (show ∀ i (h:i<fj.length),f i=(List.range L.block).map (tu L.p fj[i] 1) from fun i h=>by
  rw [hf];unfold tM;rw [WE h,Sz.out _ (Qe h)])
 have GG:=zH (xT f);have HEnd:=zH (show Hp L.p fj=(List.range fj.length).map f by rw [hf];rfl)
 rw [HEnd.out];clear eD hf hL hF hr hV du Jr hlen Sd Vb HEnd;unfold Ub Xc at *;obtain ⟨kl,kt,da,-⟩:=Xf w 35 25 #[vd vo L.p,vd vq L.block,vd vq L.queries,vd vq L.k,vd vq L.n,vd vq L.secret,vd vq L.rows,vd vq L.a,vd vq L.b,vd vq L.b,vd vq L.b] #[vd vo L.p,vd vq pu,vd vq vars,ve A R c];go_enter func174,ntmps174
 go_upto_region 1 with fail
 generalize (w.alloc _).alloc _=w1 at kl kt da |-;have cl:=kl.cell;have ct:=kt.cell;go_wp2_with fail
 refine (HC.out _ da).mono ?_;rintro e w2 ⟨vC,rfl,hC,Ca⟩;replace kl:=pa kl Ca;replace da:=ta da Ca;clear Ca cl ct kt HC;obtain ⟨AC,nC,cC,rfl⟩:=RSl.slc hC;obtain ⟨hCn,-,-,hCd⟩:=Ig hC;have gC:(nC:Int) <= 400000:=by have:=ey.out;omega
 have HCN:=zH hCn;clear hCn hC;go_wp2_with fail
 go_loopw [7,9] (fun u y wr=>∃ (i:Nat) (v:vw) (cs:List vw),v=u /\ i <= nC /\ y=vd vq i /\ wr.ownsRow w2.1.size 28 1 v i cs /\ gh 0 wr v cs ((List.range i).map f) /\ vz w2.1.size w2 wr) (fun _ y _=>nC-(intOf y).toNat)
 case atStart=>exact ⟨0,_,[],rfl,Qb _,rfl,⟨rfl, .inl ⟨rfl,rfl⟩⟩,tH _ _ _,Kb _ _⟩
 case round =>
  obtain ⟨i,v,cs,rfl,hi,rfl,oa,Ta,hb⟩:=hrel;by_cases ya:i<nC
  ·have q1:(i:Int)<nC:=by omega
   have q2:(0:Int)<=i:=by omega
   have Yo:i<fj.length:=by rw [HCN.out];exact ya
   obtain ⟨b1,fG,A1,n1,c1,rfl,tk,kd,jf⟩:=Dl hCd Yo;have z1:=(Pb jf).1;have Ue:n1=L.block:=by rw [z1];exact Sz.out _ (Qe Yo)
   subst Ue;have Oe:=Wa hb jf;have ME:=(hb.cell (p:=⟨b1,fG+i,vB⟩) tk).trans kd;have FL:b1<wr.1.size:=We tk hb.size;have zn:=zH (aJ.out i Yo);have HRi:=zH (GG.out i);obtain ⟨x,hx⟩:=zEX (fj[i]);rw [<- hx] at Oe zn;have HLx:=zH (HIL.out x);rw [<- zn.out] at HLx;have Mq:Hid (∀ w':vu,RWd w' [ve A1 L.block c1] x -> vA prog 234 #[vd vo L.p,ve A1 L.block c1,vd vo 1] w' fun e w2=>∃ v,e=vn (.tuple #[v,vd vq 0]) /\ w2.ownsRow w'.1.size 22 1 v L.block (Qa (f i)) /\ vz w'.1.size w' w2):=zH (fun w' h=>by rw [zn.out];exact HI.out A1 c1 x w' h)
   obtain ⟨fi,Wn⟩:=zEX (f i);rw [<- Wn] at HLx Mq HRi;clear hx z1 kd jf Wn zn;have Sr:=pa kl hb;have cl:=Sr.cell;have ll:=Sr.lt;go_upto_region 6 with fail
   refine Pd (Rc) [6] [0,1,2,3,4,5,6,7,8,9,10,11] zK zK ?_;refine oe (Da) ?_;intro Wc Ga ja;have Pa:=Uf Ga;replace oa:=Za oa Pa zR;replace Ta:=Ef Ta Pa;replace hb:=ta hb Pa;replace Oe:=Wa Pa Oe;refine Mc ?_;refine ud Da rfl rfl rfl ((Mq.out _ Oe).mono ?_);rintro e w7 ⟨v7,rfl,o7,Zb⟩;refine ⟨_,rfl,Zb,?_⟩;replace ja:=zM Da ja (Zb);refine zPU ?_;obtain ⟨A7,c7,rfl,-⟩:=Yb o7;have hx:=Dz (N:=0) (gb:=v.ownBlock) o7 HLx.out (Qb _) (fun q e=>(oa.lt q e).2)
   replace oa:=Za oa Zb zR;replace Ta:=Ef Ta Zb;replace hb:=ta hb Zb;refine Mc ?_;refine Vc ?_;clear Pa Zb ja Ga ME FL cl ll Oe o7;go_wp2_with (at_builtin;refine Wd rfl _ _ rfl So rfl (oa.alloc _) rfl (gg _ _ _) (by intro u hu;simp at hu;subst hu;rfl) zO (by simp;have:=hb.size;omega) ?_)
   intro v' wn Ua Ma Cb;have ma:=zA w7 (.cells #[ve A7 L.block c7] 28);have yv:=ie (oa.alloc _) Ma (by simp;have:=hb.size;omega)
   replace Ta:=Ef Ta ma;replace hx:=Lm hx ma.size (fun b _ h2 _=>ma.block b h2)
   have Ag:=YC Ta hx Ma (by simpa using Cb)
   rw [HRi.out] at Ag;replace hb:=(ta hb ma).trans yv;clear ma Ma Cb yv Ta hx oa;go_wp2
   go_roundw
   case rel=>exact ⟨i+1,v',_,rfl,zO,by go_num,Ua,Ag,hb⟩
   case measure=>simp [intOf];omega
  ·obtain rfl:i=nC:=by omega
   have q1:¬((i:Int)<i):=by omega
   have fN:=sH Ta oa;go_wp2;go_ret
   exact ⟨_,rfl,by rw [HCN.out];exact fN,da.trans (hb.mono da.size)⟩
theorem zHb (L:Tb) (D0 D1 D2 D3 D4 AM:Option vx) (n0 n1 n2 n3 n4 nM k0 k1 k2 k3 k4 cM:Nat) (m r:List (List Nat)) (w:vu) (hL:Ad L)
  (hm:Kd w [ve AM nM cM] m) (hr:Kd w [ve D0 n0 k0] r)
  (hlen:m.length=r.length) (mf:∀ x∈m,x.length=L.block) (Pe:∀ x∈r,x.length <= 2000) (hT:m.length <= 400000) :
  vA prog 169 #[vf (Ub L),ve AM nM cM,vf #[ve D0 n0 k0,ve D1 n1 k1,ve D2 n2 k2,ve D3 n3 k3,ve D4 n4 k4]] w fun e w'=>∃ v,e=vn v /\ Kd w' [v] ((List.range m.length).map (zs L m r)) /\ vz w.1.size w w':=by
 have Og:=Cc hL.p;obtain ⟨az,-,-,mK⟩:=Ig hm;obtain ⟨Mv,-,-,Le⟩:=Ig hr;subst az;subst Mv;have pE:=zH (fun A B n c m d msg Xe w hl hk hn hm=>zAd L A B n c m d msg Xe w hL hl hk hn hm)
 have mC:=zH (show ∀ a b,∀ x∈Sx L a b,x<18446744073709551616 from fun a b=>dT zO fun x hx=>Je (TT zO hx) Og.2)
 have Kg:=zH hlen;have Np:=zH mf;have Vf:=zH Pe;have GG:=zH (xT (zs L m r));have HRG:=zH (show ∀ i (h1:i<m.length) (h2:i<r.length),Sx L m[i] r[i]=zs L m r i from fun i h1 h2=>by
  unfold zs;rw [Hc,Hc,Ec h1,Ec h2]
  rfl)
 obtain ⟨rf,jL⟩:=zEX (zs L m r);rw [<- jL] at GG HRG |-;clear hL hlen mf Pe Og jL hm hr;unfold Ub at *;obtain ⟨kl,kc,da,Db⟩:=Xf w 35 41 #[vd vo L.p,vd vq L.block,vd vq L.queries,vd vq L.k,vd vq L.n,vd vq L.secret,vd vq L.rows,vd vq L.a,vd vq L.b,vd vq L.b,vd vq L.b] #[ve D0 r.length k0,ve D1 n1 k1,ve D2 n2 k2,ve D3 n3 k3,ve D4 n4 k4];go_enter func169,ntmps169
 go_upto_region 1 with fail
 generalize (w.alloc _).alloc _=w1 at kl kc da Db |-;obtain ⟨N,hN⟩:=zEX (w1.1.size);have x1:w.1.size<N:=by omega
 have x2:w.1.size+1<N:=by omega
 have x3:w.1.size≠N:=by omega
 have x4:w.1.size+1≠N:=by omega
 have Jc:N <= w1.1.size:=by omega
 clear Db hN;go_wp2_with fail
 go_loopw [7,8] (fun u y wr=>∃ (i:Nat) (v:vw) (cs:List vw),v=u /\ i <= m.length /\ y=vd vq i /\ Blk wr w.1.size 35 #[vd vo L.p,vd vq L.block,vd vq L.queries,vd vq L.k,vd vq L.n,vd vq L.secret,vd vq L.rows,vd vq L.a,vd vq L.b,vd vq L.b,vd vq L.b] /\ Blk wr (w.1.size+1) 41 #[ve D0 r.length k0,ve D1 n1 k1,ve D2 n2 k2,ve D3 n3 k3,ve D4 n4 k4] /\ wr.ownsRow N 28 1 v i cs /\ gh 0 wr v cs ((List.range i).map rf) /\ vz w.1.size w wr /\ N <= wr.1.size) (fun _ y _=>m.length-(intOf y).toNat)
 case atStart=>exact ⟨0,_,[],rfl,Qb _,rfl,kl,kc,⟨rfl, .inl ⟨rfl,rfl⟩⟩,tH _ _ _,da,Jc⟩
 case round =>
  clear kl kc da Jc;obtain ⟨i,v,cs,rfl,hi,rfl,kl,kc,oa,Ta,da,Jc⟩:=hrel;by_cases ya:i<m.length
  ·have q1:(0:Int)<=i:=by omega
   have q2:(i:Int)<m.length:=by omega
   have zx:i<r.length:=by have:=Kg.out;omega
   have q3:(i:Int)<r.length:=by omega
   obtain ⟨bm,qm,Am,lm,cm,rfl,mP,JH,nI⟩:=Dl mK ya;have ox:=(da.cell (p:=⟨bm,qm+i,vB⟩) mP).trans JH;have rp:=Wa da nI;obtain ⟨br,qr,Ar,lr,cr,rfl,nP,KH,oI⟩:=Dl Le zx;have Gv:=(da.cell (p:=⟨br,qr+i,vB⟩) nP).trans KH;have Gm:=Wa da oI;have x5:bm<N:=by omega
   have x6:br<N:=by omega
   have x7:bm≠N:=by omega
   have x8:br≠N:=by omega
   have z1:=(Pb rp).1;have z2:=(Pb Gm).1;have z3:lm=L.block:=by have:=Np.out _ (Qe ya);omega
   have z4:lr <= 2000:=by have:=Vf.out _ (Qe zx);omega
   have HC:=zH (fun w' (hb:vz wr.1.size wr w')=>pE.out Am Ar lm cm lr cr m[i] r[i] w' (Wa hb rp) (Wa hb Gm) z3 zO)
   have HRI:=zH (HRG.out i ya zx);have aJ:=zH (GG.out i);have uJ:=zH (mC.out m[i] r[i]);rw [HRI.out] at HC uJ;clear z1 z2 z3 z4 nI oI JH KH rp Gm zx HRI;have cl:=kl.cell;have ll:=kl.lt;have cc:=kc.cell;have lc:=kc.lt;have lbm:bm<wr.1.size:=by omega
   have lbr:br<wr.1.size:=by omega
   obtain ⟨fi,Wn⟩:=zEX (rf i);rw [<- Wn] at HC uJ aJ;clear Wn;go_upto_region 5 with fail
   refine Pd (Ik N N) [11,12,13] [0,1,2,3,4,5,6,7,8,9,10,11,12,13,14] zK zK ?_;refine oe (yb N N) ?_;intro Wc Ga ja;have Pa:=Uf Ga;have Gc:N <= Wc.1.size:=by have:=Pa.size;omega
   replace kl:=pa kl Pa;replace kc:=pa kc Pa;replace oa:=Za oa Pa zR;replace Ta:=Ef Ta Pa;replace da:=ta da Pa;refine Lu ?_;refine ud (yb N N) rfl rfl rfl ((HC.out _ Pa).mono ?_);rintro e w7 ⟨va,rfl,ou,Zb⟩;refine ⟨_,rfl,Td Zb Gc,?_⟩;replace ja:=zM (yb N N) ja (Td Zb Gc);refine zPU ?_;obtain ⟨Av,cv,rfl,-⟩:=Yb ou;have xq:∀ q,v.ownBlock=vD q -> q<Wc.1.size:=fun q e=>(oa.lt q e).2
   have ed:N <= w7.1.size:=by have:=Zb.size;omega
   have hx:=Dz (N:=0) (gb:=v.ownBlock) ou uJ.out (Qb _) xq;replace kl:=pa kl Zb;replace kc:=pa kc Zb;replace oa:=Za oa Zb zR;replace Ta:=Ef Ta Zb;replace da:=ta da Zb;clear ou xq Zb ja HC Pa Ga Gc cl ll cc lc;refine Lu ?_;refine ke (yb N N) rfl rfl rfl ?_;go_simp;have ma:=zA w7 (.cells #[ve Av fi.length cv] 28);have Na:=gg w7 (ve Av fi.length cv) 28;refine ⟨Td ma ed,?_⟩;replace kl:=pa kl ma;replace kc:=pa kc ma;replace oa:=Za oa ma zR;replace Ta:=Ef Ta ma;replace da:=ta da ma;replace hx:=Lm hx ma.size (fun b _ h2 _=>ma.block b h2)
   have Nl:=jb ed ma.size
   refine zPU ?_
   generalize w7.alloc _=w8 at kl kc oa Ta hx da Na Nl |-;generalize w7.1.size=g7 at Na |-;clear ma ed;have ja:=(yb N N).refl w8;refine Lu ?_;refine ke (yb N N) rfl rfl rfl ?_;refine Cs _ _ rfl So rfl oa rfl Na (by intro u hu;simp at hu;subst hu;rfl) zO Nl ?_
   intro v' wn Ua Ma Cb;have uc:∀ q,v.ownBlock=vD q -> N <= q:=fun q e=>(oa.lt q e).1
   refine ⟨Sn Ma Nl uc,?_⟩;have Ag:=YC Ta hx Ma Cb;rw [aJ.out] at Ag;replace kl:=kl.grown Ma (fun e=>by first | (have:=uc _ e;omega) | (have:=uc _ e.symm;omega))
   replace kc:=kc.grown Ma (fun e=>by first | (have:=uc _ e;omega) | (have:=uc _ e.symm;omega))
   replace da:=da.trans ((ie oa Ma Nl).mono zO);have Ud:N <= wn.1.size:=by have:=Ma.size;omega
   clear oa Ta hx Ma Cb uc Nl Na ja;have ja:=(yb N N).refl wn
   refine zPU ?_
   refine Lu ?_;refine Vc ?_;go_wp2
   go_roundw
   case rel=>exact ⟨i+1,v',_,rfl,zO,by go_num,kl,kc,Ua,Ag,da,Ud⟩
   case measure=>simp [intOf];omega
  ·obtain rfl:i=m.length:=by omega
   have q2:¬((m.length:Int)<m.length):=by omega
   have fN:=sH Ta oa;go_wp2;go_ret
   exact ⟨_,rfl,fN,da⟩
end Go.Proofs.YteoghgbnielkpaaGreat
