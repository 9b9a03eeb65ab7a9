/- A part of the proof. No condition. -/
import Derived.Test.YteoghgbnielkpaaGreatTB8

set_option maxRecDepth 100000
set_option maxHeartbeats 8000000
set_option linter.unusedVariables false
set_option linter.unusedSimpArgs false
namespace Go.Proofs.YteoghgbnielkpaaGreat
open Go.RowKit
open Tryz
open Go renaming World->vw, Addr->vy, Calls->vB
open Go.Value renaming int->vd, slice->ve, agg->vf
open Go.IntKind renaming u64->vn, i64->vq
open Go.Ending renaming returned->vl
open Go.RowKit renaming Below->vA
open Go.Act renaming put->vG
open Option renaming none->vD, some->vE
theorem I9 (L:Na) (pu La:Nat) (vars:Int) (A:Option vy) (R c:Nat) (rows:List Ua) (w:vw) (hL:Nb L) (hF:Gu L pu vars rows) (hr:RSl 3 je w [ve A R c] rows) (hV:Wx vars rows) :
  vB prog 141 #[vf (ib L),Zb L.p (pu:Int) vars (ve A R c),vd vn La] w fun e w'=>∃ v,e=vl v /\ RRx w.1.size w' v (Uv L pu La rows) /\ vA w.1.size w w':=by
 obtain ⟨A',n',c',he,bh,Sd,Ih,Ra⟩:=hr;simp at he
 obtain ⟨rfl,rfl,rfl⟩:=he;have Ia:=hL.b1;have hs:=hL.s;have Im:=hL.r;have EA:=hF.nr;have kD:=hF.sec;have Zu:=hF.small;have hR:R=rows.length:=bh.symm;have hLR:L.rows=R:=by omega
 have To:=zH (fun w=>qT L pu vars A R c rows w hL hF bh)
 have KE:=zH (fun n w hn=>mU L.p La n w hL.p hn)
 have HM:=zH (fun a b w=>Kr L.p a b w hL.p)
 have HS:=zH (fun a b w=>NM L.p a b w hL.p)
 have HC:=zH (fun v0 v1 v2 v3 l0 l1 l2 l3 w hv hq=>L9 L v0 v1 v2 v3 l0 l1 l2 l3 w hL hv hq)
 have HAE:=zH hL.ae;have HBE:=zH (show L.b=(R+L.block-1) / L.block by rw [<- hLR];exact hL.be)
 obtain ⟨pw,Bn⟩:∃ pw:Nat -> Nat,pw=fun i=>La^i%L.p:=⟨_,rfl⟩
 have ES:=zH (show (fun i=>La^i%L.p)=pw from Bn.symm)
 have Xs:=zH (show ∀ i,pw i<18446744073709551616 from fun i=>by rw [Bn];exact Uk (mc _ (zQ (Rb hL.p))) (Rb hL.p).2)
 obtain ⟨fR,uw⟩:=zEX (dK L.p pu rows.length La rows);have Iz:=zH (show fR 0=fun _=>0 by rw [uw];rfl)
 have HRS:=zH (show ∀ i (hi:i<rows.length),fR (i+1)=dB L.p pu R La rows[i] i (fR i) 3 from fun i hi=>by
  rw [uw,hR];show dB L.p pu rows.length La (rows.getD i ⟨[],[],[]⟩) i _ 3=_
  rw [Fb,Qb hi]
  rfl)
 have HSS:=zH (show ∀ (r:Ua) i (f:Nat -> Nat) j,dB L.p pu R La r i f (j+1)=ux L.p pu (pw (j*R+i)) (dB L.p pu R La r i f j) (Ec r j) (Ec r j).length from fun r i f j=>by rw [Bn];rfl)
 have HFX0:=zH (show ∀ (x:Nat) (f:Nat -> Nat) ts t,(∀ k,f k<L.p) -> ∀ k,ux L.p pu x f ts t k<L.p from fun x f ts t hf=>by
  induction t with
  | zero=>exact hf
  | succ t ih =>
   intro k;show rB L.p pu x (ux L.p pu x f ts t) _ k<_
   unfold rB;split
   ·unfold Cf
    split
    ·exact mc _ (zQ (Rb hL.p))
    ·exact ih k
   ·exact ih k)
 have HFX:=zH (show ∀ i,i <= rows.length -> ∀ k,fR i k<L.p from fun i=>by
  induction i with
  | zero=>intro _ k;rw [Iz.out];have:=Rb hL.p;show 0<_;omega
  | succ i ih =>
   intro hi;rw [HRS.out i zO];have h0:=ih zO;have h1:∀ j k,dB L.p pu R La rows[i] i (fR i) j k<L.p:=fun j=>by
    induction j with
    | zero=>exact h0
    | succ j jh=>exact HFX0.out _ _ _ _ jh
   exact h1 3)
 have Kd:=(Rb hL.p).2;have ar:=zH Kd;have HCP:=zH (show Uv L pu La rows=rq L.block (Df ((List.range L.secret).map (fR R)) (uh L.p R La 0) (uh L.p R La 1) (uh L.p R La 2)) (Df L.a L.b L.b L.b) by rw [uw,hR];rfl)
 have wu:=zH (show ((List.range (3*R)).map pw).take R=uh L.p R La 0 by
  rw [<- List.map_take,List.take_range,Nat.min_eq_left zO,Bn];unfold uh;refine Qz fun i _=>?_
  simp)
 have Xn:=zH (show (((List.range (3*R)).map pw).take (2*R)).drop R=uh L.p R La 1 by
  refine zG (by simp [uh];omega) fun i hi=>?_
  simp at hi
  unfold uh;rw [Yl,Ka zO,Fb,List.getElem?_drop,List.getElem?_take,Ka zO,ot,Pz zO];rw [Bn];simp)
 have jm:=zH (show ((List.range (3*R)).map pw).drop (2*R)=uh L.p R La 2 by
  refine zG (by simp [uh];omega) fun i hi=>?_
  simp at hi
  unfold uh;rw [Yl,Ka zO,Fb,List.getElem?_drop,ot,Pz zO];rw [Bn];simp)
 have Au:=zH (show ∀ i (hi:i<rows.length) k,k<3 -> ∀ t (ht:t<(Ec rows[i] k).length),0 <= ((Ec rows[i] k).getD t (0,0)).1 /\ ((Ec rows[i] k).getD t (0,0)).1<vars from fun i hi k hk t ht=>by
  rw [Fb,Qb ht];exact hV _ (He hi) k hk _ (He ht))
 obtain ⟨R3,hR3⟩:=zEX (3*R);obtain ⟨R2,hR2⟩:=zEX (2*R);have e1:(3:Int)*R=(R3:Int):=by omega
 have e2:=Qc R3;have e3:(2:Int)*R=(R2:Int):=by omega
 have e4:=Qc R2;have mk:=Xw L.secret zO;have gs:(L.secret:Int) <= 65536:=by omega
 have gs0:(0:Int)<=L.secret:=by omega
 have gR:R <= 16384:=by omega
 have gR3:R3 <= 65536:=by omega
 rw [<- hR3] at wu Xn jm;rw [<- hR2] at Xn jm;rw [HCP.out];have ME:=zH hR3;have wO:=zH hR2;have Jz:=zH hR;have HSEC:=zH (And.intro kD Zu);clear hV Bn uw hL hF Ia hs Im EA kD Zu hR3 hR2 Kd HCP HFX0 Sd Ih bh hR;unfold ib Zb fv at *;rw [hLR] at To HC |-;clear hLR;obtain ⟨kl,kt,da,-⟩:=Yg w 101 25 #[vd vn L.p,vd vq L.block,vd vq L.queries,vd vq L.k,vd vq L.n,vd vq L.secret,vd vq R,vd vq L.a,vd vq L.b,vd vq L.b,vd vq L.b] #[vd vn L.p,vd vq pu,vd vq vars,ve A R c];go_enter func141,ntmps141
 go_upto_region 1 with fail
 generalize (w.alloc _).alloc _=w1 at kl kt da |-;have cl:=kl.cell;have ct:=kt.cell;go_wp2_with fail
 refine (To.out _).mono ?_;rintro e w2 ⟨rfl,xa⟩;replace kl:=ia kl xa;replace kt:=ia kt xa;replace da:=ma da xa;clear xa cl ct To;have cl:=kl.cell;go_upto_region 4 with fail
 obtain ⟨kf,ja⟩:=zN w2 224 #[vd vn L.p];replace kl:=ia kl ja;replace kt:=ia kt ja;replace da:=ma da ja;generalize w2.alloc _=w3 at kl kt kf da |-;generalize w2.1.size=gf at kf |-;clear ja cl;have cl:=kl.cell;have cf:=kf.cell;go_wp2_with fail
 refine (KE.out R3 _ zO).mono ?_;rintro e w4 ⟨gp,rfl,-,kp,xa⟩;rw [ES.out] at kp;replace kl:=ia kl xa;replace kt:=ia kt xa;replace kf:=ia kf xa;replace da:=ma da xa;clear xa cl cf KE;have cl:=kl.cell;go_upto_region 7 with fail
 have kg:=Blk.new w4 22 (Qa L.secret fun _=>0)
 have zj:=zA w4 (.cells (Qa L.secret fun _=>0) 22)
 have ct:=(ia kt zj).cell;clear cl mk;generalize w4.alloc _=w5 at kg zj ct |-;have gRi:(R:Int) <= 16384:=by omega
 go_wp2_with fail
 clear ct;go_loopw [38] (fun y wr=>∃ i:Nat,i <= R /\ y=vd vq i /\ Blk wr w4.1.size 22 (Qa L.secret (fR i)) /\ vA w4.1.size w4 wr) (fun y _=>R-(intOf y).toNat)
 case atStart=>exact ⟨0,Kb _,rfl,by rw [Iz.out];exact kg,zj⟩
 case round =>
  clear kg zj;obtain ⟨i,hi,rfl,kg,hb⟩:=hrel;by_cases ta:i<R
  ·have q1:(i:Int)<R:=by omega
   have q2:(0:Int)<=i:=by omega
   have Dq:i<rows.length:=by have:=Jz.out;omega
   obtain ⟨b,q,rfl⟩:=Ra.base zO zO;obtain ⟨cs,-,hc,x,y,z,rfl,td,Ie,ud⟩:=Ra.get Dq;have Hh:=ma da hb;have Ib:=Gf _ _ ((hc 0 zO).trans (show [x,y,z][0]?=vE x from rfl))
   have h0:=(Hh.cell (p:=⟨b,q+i*3+0,vD⟩) Ib).trans (hc 0 zO);have h1:=(Hh.cell (p:=⟨b,q+i*3+1,vD⟩) Ib).trans (hc 1 zO);have h2:=(Hh.cell (p:=⟨b,q+i*3+2,vD⟩) Ib).trans (hc 2 zO);rw [tt] at h0;simp only [List.getElem?_cons_zero,List.getElem?_cons_succ] at h0 h1 h2;have dM:=zH (HRS.out i Dq);have HVi:=zH (Au.out i Dq);have xH:=zH (HSS.out rows[i] i (fR i));obtain ⟨fS,TI⟩:=zEX (dB L.p pu R La rows[i] i (fR i));have xr:=zH (show fS 0=fR i by rw [TI];rfl)
   rw [<- TI] at dM xH;have PE:=zH (show ∀ k,k<3 -> RLin w [if k=0 then x else if k=1 then y else z] (Ec rows[i] k) from fun k hk=>by
    unfold Ec;rcases (show k=0 \/ k=1 \/ k=2 by omega) with h | h | h <;> subst h
    ·exact td
    ·exact Ie
    ·exact ud)
   obtain ⟨sd,jD⟩:=zEX (Ec rows[i]);rw [<- jD] at HVi xH PE;obtain ⟨A1,n1,c1,rfl⟩:=RSl.slc td;obtain ⟨A2,n2,c2,rfl⟩:=RSl.slc Ie;obtain ⟨A3,n3,c3,rfl⟩:=RSl.slc ud;have ja:=zA wr (.cells #[ve A1 n1 c1,ve A2 n2 c2,ve A3 n3 c3] 211);clear hc td Ie ud TI jD Hh;have Gb:=Gf _ _ h0;go_wp2_with fail
   go_loopw [50] (fun y wq=>∃ j:Nat,j <= 3 /\ y=vd vq j /\ Blk wq w4.1.size 22 (Qa L.secret (fS j)) /\ vA w4.1.size w4 wq) (fun y _=>3-(intOf y).toNat)
   case atStart=>exact ⟨0,zO,rfl,by rw [xr.out];exact ia kg ja,ma hb ja⟩
   case round =>
    clear kg hb h0 h1 h2 ja Gb;obtain ⟨j,hj,rfl,kg,hb⟩:=hrel;by_cases tn:j<3
    ·have q3:(j:Int)<3:=by omega
     have q4:(0:Int)<=j:=by omega
     have Ul:=PE.out j tn;have ix:=fun w=>nQ (w:=w) (x:=ve A1 n1 c1) (y:=ve A2 n2 c2) (z:=ve A3 n3 c3) tn
     obtain ⟨sel,bg⟩:=zEX ((if j=0 then ve A1 n1 c1 else if j=1 then ve A2 n2 c2 else ve A3 n3 c3))
     rw [<- bg] at Ul ix;have Kz:=zH (xH.out j);have HVj:=zH (HVi.out j tn);obtain ⟨ts,fG⟩:=zEX (sd j);rw [<- fG] at Ul Kz HVj;obtain ⟨jr,UC⟩:=zEX (j*R);obtain ⟨m,hm⟩:=zEX (jr+i);rw [<- UC,<- hm] at Kz;have UU:jr <= 2*R:=by rw [UC];exact Tz _ zO
     have z1:(j:Int)*R=(jr:Int):=by rw [UC];exact (Qf _ _).symm
     have z2:=Qc jr;have z3:(jr:Int)+i=(m:Int):=by omega
     have z4:=Qc m;have yn:m<R3:=by have:=ME.out;omega
     have z5:(m:Int)<R3:=by omega
     have z6:(0:Int)<=m:=by omega
     clear bg fG UC hm UU;obtain ⟨As,ns,ke,rfl⟩:=RSl.slc Ul;obtain ⟨A',n',c',he,bh,Sd,Ih,Cs⟩:=Ul;simp at he
     obtain ⟨rfl,rfl,rfl⟩:=he;have gns:=Mm Sd Ih;have FE:=zH bh;obtain ⟨fT,hfT⟩:=zEX (ux L.p pu (pw m) (fS j) ts);have HT0:=zH (show fT 0=fS j by rw [hfT];rfl)
     have HTS:=zH (show ∀ t,fT (t+1)=rB L.p pu (pw m) (fT t) (ts.getD t (0,0)) from fun t=>by rw [hfT];rfl)
     rw [<- hfT] at Kz;clear hfT bh Sd Ih;go_wp2_with fail
     go_loopw [56] (fun y wq=>∃ t:Nat,t <= ns /\ y=vd vq t /\ Blk wq w4.1.size 22 (Qa L.secret (fT t)) /\ vA w4.1.size w4 wq) (fun y _=>ns-(intOf y).toNat)
     case atStart=>exact ⟨0,Kb _,rfl,by rw [HT0.out];exact kg,hb⟩
     case round =>
      clear kg hb;obtain ⟨t,ht,rfl,kg,hb⟩:=hrel;by_cases Ow:t<ns
      ·have q5:(t:Int)<ns:=by omega
       have q6:(0:Int)<=t:=by omega
       have Py:t<ts.length:=by rw [FE.out];exact Ow
       obtain ⟨b',q',rfl⟩:=Cs.base zO zO;have Hh:=ma da hb;obtain ⟨pq,Tv⟩:=RLin.at_ (Cs.below pG Hh) Py;have Ur:=Gf _ _ pq;simp only at Ur;have hv:=HVj.out t Py;have Mz:=zH (HTS.out t);revert pq Tv hv Mz
       generalize ts.getD t (0,0)=tm;obtain ⟨v,co⟩:=tm;intro pq Tv hv Mz;simp only at pq Tv hv;obtain ⟨v1,Dj⟩:=zEX (v-1);obtain ⟨v2,sh⟩:=zEX (v1-(pu:Int));have kD:=HSEC.out;have y1:v-1=v1:=Dj.symm;have y2:vq.wrap v1=v1:=El _ zO zO;have y3:v1-(pu:Int)=v2:=sh.symm;have y4:vq.wrap v2=v2:=El _ zO zO;have HTF:=zH (show fT (t+1)=if 0 <= v2 then Cf (fT t) v2.toNat ((fT t v2.toNat+tg L.p (pw m*co%L.p))%L.p) else fT t by rw [Mz.out,sh,Dj];rfl)
       have Qy:v2<(L.secret:Int):=by omega
       have kt1:=ia kt hb;have yl:=ia kl hb;have ct:=kt1.cell;have cl:=yl.cell;clear Dj sh kD hv Mz;by_cases hz:0 <= v2
       ·have d1:decide ((0:Int) <= v2)=true:=xb hz
        have d2:decide (v2<(L.secret:Int))=true:=xb Qy;obtain ⟨s,rfl⟩:=dk hz;have hsl:s<L.secret:=by omega
        obtain ⟨a,ha⟩:=zEX (fT t s);obtain ⟨px,Lp⟩:=zEX (pw m);obtain ⟨u,hu⟩:=zEX (px*co%L.p);obtain ⟨r,hr⟩:=zEX ((a+tg L.p u)%L.p);have xg:=zH (show (Qa L.secret (fT t)).setIfInBounds s (vd vn r)=Qa L.secret (fT (t+1)) by
         rw [Lr,HTF.out,Ka hz,Rk,hr,hu,Lp,ha])
        have Of:=zH (fun w=>by have:=HM.out px co w;rw [<- hu] at this;exact this)
        have Rh:=zH (fun w=>by have:=HS.out a u w;rw [<- hr] at this;exact this)
        have HA:=zH ha;obtain ⟨ja,kx⟩:=(zN wr 208 #[vd vq v,vd vn co]).symm;have mC:=(ia kp hb).cell m;have hpx2:=Lp;rw [Uf _ yn] at mC;clear hu hr ha;have lt1:=kt1.lt;have ll1:=yl.lt;go_upto_region 18 with fail
        replace kg:=ia kg ja;replace hb:=ma hb ja;clear ct cl kt1 yl mC ja lt1 ll1;generalize wr.alloc _=w6 at kg kx hb |-;generalize wr.1.size=gx at kx |-;have yc:=ia kf hb;have xJ:=ia kp hb;have cf:=yc.cell;have lf:=yc.lt;have mC:=xJ.cell m;rw [Uf _ yn] at mC;have lp:=xJ.lt;have cx:=kx.cell;have lx:=kx.lt;have cg:=kg.cell s;rw [Uf _ hsl,<- HA.out] at cg;have lg:=kg.lt;have Bn:pw m=px:=hpx2.symm;rw [Bn] at mC;clear Lp hpx2 Bn;refine kh (Wb) (oa) [21] [21] [0,1,2,3,4,5,6,7,8,9,10,11,12,13,14,15,16,17,18,19,20,21] zK zK ?_;refine lh (oa) ?_;intro Wc ea;refine Xe ?_;refine Nd oa rfl rfl rfl rfl (fun w' hR=>Of.out _) ?_
        refine zPU ?_;refine Xe ?_;refine Nd oa rfl rfl rfl rfl (fun w' hR=>Rh.out _) ?_
        refine zPU ?_;refine Xe ?_;refine Oo rfl rfl rfl rfl ?_;intro wh Qd;replace ea:=zM oa ea Qd;have Sb:=ma (tb w6.1.size w6).drew ea;replace kg:=ia kg Sb;replace hb:=ma hb Sb;clear Sb ea Qd cf lf mC lp cx lx cg lg yc xJ;have c3:=kg.cell s;rw [Uf _ hsl] at c3;have f3:=kg.frozen;go_simp;refine ⟨fun h=>Bool.noConfusion h,?_⟩
        have hg:=Zj (w:=wh) w4.1.size s (vd vn r);replace kg:=kg.set_ s (vd vn r);rw [xg.out] at kg;replace hb:=hb.trans (Er hg hb.size zR);clear hg f3 c3;generalize wh.setCell _ _=we at kg hb |-;refine Up rfl ?_;go_wp2_with fail
        go_roundw
        case rel=>exact ⟨t+1,zO,by go_num,kg,hb⟩
        case measure=>simp [intOf];omega
       ·have d1:decide ((0:Int) <= v2)=false:=db hz
        have HTF2:=zH (show fT (t+1)=fT t by rw [HTF.out,ya hz])
        have ja:=zA wr (.cells #[vd vq v,vd vn co] 208);have lt1:=kt1.lt;have ll1:=yl.lt;go_wp2_with fail
        replace kg:=ia kg ja;replace hb:=ma hb ja
        go_roundw
        case rel=>exact ⟨t+1,zO,by go_num,by rw [HTF2.out];exact kg,hb⟩
        case measure=>simp [intOf];omega
      ·obtain rfl:t=ns:=by omega
       have q5:¬((t:Int)<t):=by omega
       rw [<- FE.out,<- Kz.out] at kg;go_wp2_with fail
       go_roundw
       case rel=>exact ⟨j+1,zO,by go_num,kg,hb⟩
       case measure=>simp [intOf];omega
    ·obtain rfl:j=3:=by omega
     rw [<- dM.out] at kg;go_wp2_with fail
     go_roundw
     case rel=>exact ⟨i+1,zO,by go_num,kg,hb⟩
     case measure=>simp [intOf];omega
  ·obtain rfl:i=R:=by omega
   have q1:¬((i:Int)<i):=by omega
   have hS:=tC kg (fun k _=>Uk (HFX.out i (by rw [<- Jz.out];omega) k) ar.out) (by simp [maxLen];omega)
   have hP:=tC (ia kp hb) (fun k _=>Xs.out k) (by simp [maxLen];omega)
   obtain ⟨PL,hPL⟩:=zEX ((List.range R3).map pw);rw [<- hPL] at hP wu Xn jm;have yl:=ia kl hb;have cl:=yl.cell;have ll:=yl.lt;have x1:i <= R3:=by have:=ME.out;omega
   have x2:R2 <= R3:=by have:=ME.out;have:=wO.out;omega
   have x3:i <= R2:=by have:=wO.out;omega
   have x4:(i:Int)<=R3:=by omega
   have x5:(R2:Int)<=R3:=by omega
   have x6:(i:Int)<=R2:=by omega
   have x7:(0:Int)<=i:=by omega
   have x8:(0:Int)<=R2:=by omega
   have h1:=dO hP x1;have h2:=BL (dO hP x2) x3;have h3:=BL hP x2;rw [wu.out] at h1;rw [Xn.out] at h2;rw [jm.out] at h3;have HQ4:=zH (show ∀ k,k<4 -> Df L.a L.b L.b L.b k=((Df ((List.range L.secret).map (fR i)) (uh L.p i La 0) (uh L.p i La 1) (uh L.p i La 2) k).length+L.block-1) / L.block from fun k hk=>by
    rcases (show k=0 \/ k=1 \/ k=2 \/ k=3 by omega) with rfl | rfl | rfl | rfl
    ·show L.a=(((List.range L.secret).map (fR i)).length+L.block-1) / L.block
     rw [Zm,Yo];exact HAE.out
    ·show L.b=((uh L.p i La 0).length+L.block-1) / L.block
     rw [uh,Zm,Yo];exact HBE.out
    ·show L.b=((uh L.p i La 1).length+L.block-1) / L.block
     rw [uh,Zm,Yo];exact HBE.out
    ·show L.b=((uh L.p i La 2).length+L.block-1) / L.block
     rw [uh,Zm,Yo];exact HBE.out)
   clear hPL hP kg wu Xn jm yl;go_upto_region 22 with fail
   generalize (vE (⟨gp,0,vD⟩:vy))=PA at h1 h2 h3 |-;generalize (vE (⟨w4.1.size,0,vD⟩:vy))=SA at hS |-;refine zd (Wb) [15] [0,1,2,3,4,5,6,7,8,9,10,11,12,13,14,15,16] zK zK ?_;refine Ue (oa) ?_;intro Wc Ja ea;have Ma:=jg Ja;replace hS:=Ab Ma hS;replace h1:=Ab Ma h1;replace h2:=Ab Ma h2;replace h3:=Ab Ma h3;rcases dp i with hi0 | hi0
   ·have hr30:R3=0:=by have:=ME.out;omega
    have hr20:R2=0:=by have:=wO.out;omega
    subst hr30 hr20 hi0;have w0:vq.wrap 0=0:=by decide
    rw [Ka rfl] at h2 h3;have hv:=zH (zAZ hS h1 h2 h3);refine Pb ?_;refine Ic oa rfl rfl rfl ((HC.out _ _ _ _ _ _ _ _ _ hv.out HQ4.out).mono ?_);rintro e w7 ⟨v,rfl,hv7,xa⟩;refine ⟨_,rfl,xa,?_⟩;replace ea:=zM oa ea (xa);refine zPU ?_;refine Pb ?_;refine Hc ?_;go_wp2;go_ret
    exact ⟨v,rfl,hv7.mono (ma (ma da hb) Ma).size,ma (ma (ma da hb) Ma) xa⟩
   ·have dJ:¬R3=i:=by have:=ME.out;omega
    have hne2:¬R3=R2:=by have:=ME.out;have:=wO.out;omega
    rw [ya dJ] at h2;rw [ya hne2] at h3;have hv:=zH (zAZ hS h1 h2 h3);refine Pb ?_;refine Ic oa rfl rfl rfl ((HC.out _ _ _ _ _ _ _ _ _ hv.out HQ4.out).mono ?_);rintro e w7 ⟨v,rfl,hv7,xa⟩;refine ⟨_,rfl,xa,?_⟩;replace ea:=zM oa ea (xa);refine zPU ?_;refine Pb ?_;refine Hc ?_;go_wp2;go_ret
    exact ⟨v,rfl,hv7.mono (ma (ma da hb) Ma).size,ma (ma (ma da hb) Ma) xa⟩
end Go.Proofs.YteoghgbnielkpaaGreat
