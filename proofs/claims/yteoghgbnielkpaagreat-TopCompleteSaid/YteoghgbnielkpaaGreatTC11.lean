/- A part of the proof. No condition. -/
import Derived.Test.YteoghgbnielkpaaGreatTC10

set_option maxRecDepth 100000
set_option maxHeartbeats 8000000
set_option linter.unusedVariables false
set_option linter.unusedSimpArgs false
namespace Go.Proofs.YteoghgbnielkpaaGreat
open Go.RowKit
open Tryz
open Go renaming World->vw, Addr->vy, Calls->vB
open Go.Value renaming int->vd, slice->ve, agg->vf
open Go.IntKind renaming u64->vn, i64->vq
open Go.Ending renaming returned->vl
open Go.RowKit renaming Below->vA
open Go.Act renaming put->vG
open Option renaming none->vD, some->vE
theorem z7 (L:Ma) (pu La:Nat) (vars:Int) (A:Option vy) (R c:Nat) (rows:List Ua) (w:vw) (hL:Lb L) (hF:eu L pu vars rows) (hr:RSl 3 Ud w [ve A R c] rows) (hV:Dx vars rows) :
  vB prog 141 #[vf (jb L),Tb L.p (pu:Int) vars (ve A R c),vd vn La] w fun e w'=>∃ v,e=vl v /\ RRx w.1.size w' v (ov L pu La rows) /\ vA w.1.size w w':=by
 obtain ⟨A',n',c',he,Ng,Ld,nh,Ra⟩:=hr;simp at he
 obtain ⟨rfl,rfl,rfl⟩:=he;have Ia:=hL.b1;have hs:=hL.s;have Xq:=hL.r;have aA:=hF.nr;have BC:=hF.sec;have oy:=hF.small;have hR:R=rows.length:=Ng.symm;have hLR:L.rows=R:=by omega
 have uo:=zH (fun w=>kS L pu vars A R c rows w hL hF Ng)
 have SD:=zH (fun n w hn=>dT L.p La n w hL.p hn)
 have HM:=zH (fun a b w=>Nq L.p a b w hL.p)
 have HS:=zH (fun a b w=>UL L.p a b w hL.p)
 have HC:=zH (fun v0 v1 v2 v3 l0 l1 l2 l3 w hv hq=>B7 L v0 v1 v2 v3 l0 l1 l2 l3 w hL hv hq)
 have HAE:=zH hL.ae;have HBE:=zH (show L.b=(R+L.block-1) / L.block by rw [<- hLR];exact hL.be)
 obtain ⟨pw,Vm⟩:∃ pw:Nat -> Nat,pw=fun i=>La^i%L.p:=⟨_,rfl⟩
 have wR:=zH (show (fun i=>La^i%L.p)=pw from Vm.symm)
 have Ur:=zH (show ∀ i,pw i<18446744073709551616 from fun i=>by rw [Vm];exact il (ic _ (by have:=Pb hL.p;omega)) (Pb hL.p).2)
 obtain ⟨fR,Iv⟩:=zEX (pJ L.p pu rows.length La rows);have Yy:=zH (show fR 0=fun _=>0 by rw [Iv];rfl)
 have HRS:=zH (show ∀ i (hi:i<rows.length),fR (i+1)=CA L.p pu R La rows[i] i (fR i) 3 from fun i hi=>by
  rw [Iv,hR];show CA L.p pu rows.length La (rows.getD i ⟨[],[],[]⟩) i _ 3=_
  rw [Cb,Xb hi]
  rfl)
 have HSS:=zH (show ∀ (r:Ua) i (f:Nat -> Nat) j,CA L.p pu R La r i f (j+1)=Hw L.p pu (pw (j*R+i)) (CA L.p pu R La r i f j) (Gc r j) (Gc r j).length from fun r i f j=>by rw [Vm];rfl)
 have HFX0:=zH (show ∀ (x:Nat) (f:Nat -> Nat) ts t,(∀ k,f k<L.p) -> ∀ k,Hw L.p pu x f ts t k<L.p from fun x f ts t hf=>by
  induction t with
  | zero=>exact hf
  | succ t ih =>
   intro k;show JA L.p pu x (Hw L.p pu x f ts t) _ k<_
   unfold JA;split
   ·unfold xf
    split
    ·exact ic _ (by have:=Pb hL.p;omega)
    ·exact ih k
   ·exact ih k)
 have HFX:=zH (show ∀ i,i <= rows.length -> ∀ k,fR i k<L.p from fun i=>by
  induction i with
  | zero=>intro _ k;rw [Yy.out];have:=Pb hL.p;show 0<_;omega
  | succ i ih =>
   intro hi;rw [HRS.out i (by omega)]
   have h0:=ih (by omega)
   have h1:∀ j k,CA L.p pu R La rows[i] i (fR i) j k<L.p:=fun j=>by
    induction j with
    | zero=>exact h0
    | succ j jh=>exact HFX0.out _ _ _ _ jh
   exact h1 3)
 have Wd:=(Pb hL.p).2;have ox:=zH Wd;have HCP:=zH (show ov L pu La rows=Up L.block (yf ((List.range L.secret).map (fR R)) (bh L.p R La 0) (bh L.p R La 1) (bh L.p R La 2)) (yf L.a L.b L.b L.b) by rw [Iv,hR];rfl)
 have Rt:=zH (show ((List.range (3*R)).map pw).take R=bh L.p R La 0 by
  rw [<- List.map_take,List.take_range,Nat.min_eq_left (by omega),Vm]
  unfold bh;refine pz fun i _=>?_
  simp)
 have Cn:=zH (show (((List.range (3*R)).map pw).take (2*R)).drop R=bh L.p R La 1 by
  refine LF (by simp [bh];omega) fun i hi=>?_
  simp at hi
  unfold bh;rw [Bl,Na (by omega),Cb,List.getElem?_drop,List.getElem?_take,Na (by omega),Zt,oz (by omega)]
  rw [Vm];simp)
 have Dm:=zH (show ((List.range (3*R)).map pw).drop (2*R)=bh L.p R La 2 by
  refine LF (by simp [bh];omega) fun i hi=>?_
  simp at hi
  unfold bh;rw [Bl,Na (by omega),Cb,List.getElem?_drop,Zt,oz (by omega)]
  rw [Vm];simp)
 have Vt:=zH (show ∀ i (hi:i<rows.length) k,k<3 -> ∀ t (ht:t<(Gc rows[i] k).length),0 <= ((Gc rows[i] k).getD t (0,0)).1 /\ ((Gc rows[i] k).getD t (0,0)).1<vars from fun i hi k hk t ht=>by
  rw [Cb,Xb ht];exact hV _ (zf hi) k hk _ (zf ht))
 obtain ⟨R3,hR3⟩:=zEX (3*R);obtain ⟨R2,hR2⟩:=zEX (2*R);have e1:(3:Int)*R=(R3:Int):=by omega
 have e2:=ye R3;have e3:(2:Int)*R=(R2:Int):=by omega
 have e4:=ye R2;have mk:=nw L.secret (by omega)
 have gs:(L.secret:Int) <= 65536:=by omega
 have gs0:(0:Int)<=L.secret:=by omega
 have gR:R <= 16384:=by omega
 have gR3:R3 <= 65536:=by omega
 rw [<- hR3] at Rt Cn Dm;rw [<- hR2] at Cn Dm;rw [HCP.out];have TD:=zH hR3;have BN:=zH hR2;have az:=zH hR;have HSEC:=zH (And.intro BC oy);clear hV Vm Iv hL hF Ia hs Xq aA BC oy hR3 hR2 Wd HCP HFX0 Ld nh Ng hR;unfold jb Tb fv at *;rw [hLR] at uo HC |-;clear hLR;obtain ⟨kl,kt,da,-⟩:=Eh w 101 25 #[vd vn L.p,vd vq L.block,vd vq L.queries,vd vq L.k,vd vq L.n,vd vq L.secret,vd vq R,vd vq L.a,vd vq L.b,vd vq L.b,vd vq L.b] #[vd vn L.p,vd vq pu,vd vq vars,ve A R c];go_enter func141,ntmps141
 go_upto_region 1 with fail
 generalize (w.alloc _).alloc _=w1 at kl kt da |-;have cl:=kl.cell;have ct:=kt.cell;go_wp2_with fail
 refine (uo.out _).mono ?_;rintro e w2 ⟨rfl,xa⟩;replace kl:=ja kl xa;replace kt:=ja kt xa;replace da:=pa da xa;clear xa cl ct uo;have cl:=kl.cell;go_upto_region 4 with fail
 have kf:=Blk.new w2 224 #[vd vn L.p];have ma:=(Ca w2.1.size w2).alloc zR (.cells #[vd vn L.p] 224);replace kl:=ja kl ma;replace kt:=ja kt ma;replace da:=pa da ma;generalize w2.alloc _=w3 at kl kt kf da |-;generalize w2.1.size=gf at kf |-;clear ma cl;have cl:=kl.cell;have cf:=kf.cell;go_wp2_with fail
 refine (SD.out R3 _ (by omega)).mono ?_
 rintro e w4 ⟨gp,rfl,-,kp,xa⟩;rw [wR.out] at kp;replace kl:=ja kl xa;replace kt:=ja kt xa;replace kf:=ja kf xa;replace da:=pa da xa;clear xa cl cf SD;have cl:=kl.cell;go_upto_region 7 with fail
 have kg:=Blk.new w4 22 (Qa L.secret fun _=>0)
 have uj:=(Ca w4.1.size w4).alloc zR (.cells (Qa L.secret fun _=>0) 22)
 have ct:=(ja kt uj).cell;clear cl mk;generalize w4.alloc _=w5 at kg uj ct |-;have gRi:(R:Int) <= 16384:=by omega
 go_wp2_with fail
 clear ct;go_loopw [38] (fun y wr=>∃ i:Nat,i <= R /\ y=vd vq i /\ Blk wr w4.1.size 22 (Qa L.secret (fR i)) /\ vA w4.1.size w4 wr) (fun y _=>R-(intOf y).toNat)
 case atStart=>exact ⟨0,Mb _,rfl,by rw [Yy.out];exact kg,uj⟩
 case round =>
  clear kg uj;obtain ⟨i,hi,rfl,kg,hb⟩:=hrel;by_cases ta:i<R
  ·have q1:(i:Int)<R:=by omega
   have q2:(0:Int)<=i:=by omega
   have cq:i<rows.length:=by have:=az.out;omega
   obtain ⟨b,q,rfl⟩:=Ra.base (by omega) (by omega)
   obtain ⟨cs,-,hc,x,y,z,rfl,Zc,Ge,kd⟩:=Ra.get cq;have mh:=pa da hb;have Jb:=Jf _ _ ((hc 0 (by omega)).trans (show [x,y,z][0]?=vE x from rfl))
   have h0:=(mh.cell (p:=⟨b,q+i*3+0,vD⟩) Jb).trans (hc 0 (by omega))
   have h1:=(mh.cell (p:=⟨b,q+i*3+1,vD⟩) Jb).trans (hc 1 (by omega))
   have h2:=(mh.cell (p:=⟨b,q+i*3+2,vD⟩) Jb).trans (hc 2 (by omega))
   rw [ss] at h0;simp only [List.getElem?_cons_zero,List.getElem?_cons_succ] at h0 h1 h2;have pL:=zH (HRS.out i cq);have HVi:=zH (Vt.out i cq);have NG:=zH (HSS.out rows[i] i (fR i));obtain ⟨fS,gI⟩:=zEX (CA L.p pu R La rows[i] i (fR i));have Gq:=zH (show fS 0=fR i by rw [gI];rfl)
   rw [<- gI] at pL NG;have VD:=zH (show ∀ k,k<3 -> RLin w [if k=0 then x else if k=1 then y else z] (Gc rows[i] k) from fun k hk=>by
    unfold Gc;rcases (show k=0 \/ k=1 \/ k=2 by omega) with h | h | h <;> subst h
    ·exact Zc
    ·exact Ge
    ·exact kd)
   obtain ⟨sd,zC⟩:=zEX (Gc rows[i]);rw [<- zC] at HVi NG VD;obtain ⟨A1,n1,c1,rfl⟩:=RSl.slc Zc;obtain ⟨A2,n2,c2,rfl⟩:=RSl.slc Ge;obtain ⟨A3,n3,c3,rfl⟩:=RSl.slc kd;have ma:=(Ca wr.1.size wr).alloc zR (.cells #[ve A1 n1 c1,ve A2 n2 c2,ve A3 n3 c3] 211);clear hc Zc Ge kd gI zC mh;have Gb:=Jf _ _ h0;go_wp2_with fail
   go_loopw [50] (fun y wq=>∃ j:Nat,j <= 3 /\ y=vd vq j /\ Blk wq w4.1.size 22 (Qa L.secret (fS j)) /\ vA w4.1.size w4 wq) (fun y _=>3-(intOf y).toNat)
   case atStart=>exact ⟨0,by omega,rfl,by rw [Gq.out];exact ja kg ma,pa hb ma⟩
   case round =>
    clear kg hb h0 h1 h2 ma Gb;obtain ⟨j,hj,rfl,kg,hb⟩:=hrel;by_cases Tm:j<3
    ·have q3:(j:Int)<3:=by omega
     have q4:(0:Int)<=j:=by omega
     have yl:=VD.out j Tm;have ix:=fun w=>oP (w:=w) (x:=ve A1 n1 c1) (y:=ve A2 n2 c2) (z:=ve A3 n3 c3) Tm
     obtain ⟨sel,Qf⟩:=zEX ((if j=0 then ve A1 n1 c1 else if j=1 then ve A2 n2 c2 else ve A3 n3 c3))
     rw [<- Qf] at yl ix;have bz:=zH (NG.out j);have HVj:=zH (HVi.out j Tm);obtain ⟨ts,uF⟩:=zEX (sd j);rw [<- uF] at yl bz HVj;obtain ⟨jr,iC⟩:=zEX (j*R);obtain ⟨m,hm⟩:=zEX (jr+i);rw [<- iC,<- hm] at bz;have WT:jr <= 2*R:=by rw [iC];exact dE _ (by omega)
     have z1:(j:Int)*R=(jr:Int):=by rw [iC];exact (Uf _ _).symm
     have z2:=ye jr;have z3:(jr:Int)+i=(m:Int):=by omega
     have z4:=ye m;have Bu:m<R3:=by have:=TD.out;omega
     have z5:(m:Int)<R3:=by omega
     have z6:(0:Int)<=m:=by omega
     clear Qf uF iC hm WT;obtain ⟨As,ns,je,rfl⟩:=RSl.slc yl;obtain ⟨A',n',c',he,Ng,Ld,nh,Yq⟩:=yl;simp at he
     obtain ⟨rfl,rfl,rfl⟩:=he;have gns:=um Ld nh;have PD:=zH Ng;obtain ⟨fT,hfT⟩:=zEX (Hw L.p pu (pw m) (fS j) ts);have HT0:=zH (show fT 0=fS j by rw [hfT];rfl)
     have HTS:=zH (show ∀ t,fT (t+1)=JA L.p pu (pw m) (fT t) (ts.getD t (0,0)) from fun t=>by rw [hfT];rfl)
     rw [<- hfT] at bz;clear hfT Ng Ld nh;go_wp2_with fail
     go_loopw [56] (fun y wq=>∃ t:Nat,t <= ns /\ y=vd vq t /\ Blk wq w4.1.size 22 (Qa L.secret (fT t)) /\ vA w4.1.size w4 wq) (fun y _=>ns-(intOf y).toNat)
     case atStart=>exact ⟨0,Mb _,rfl,by rw [HT0.out];exact kg,hb⟩
     case round =>
      clear kg hb;obtain ⟨t,ht,rfl,kg,hb⟩:=hrel;by_cases Wv:t<ns
      ·have q5:(t:Int)<ns:=by omega
       have q6:(0:Int)<=t:=by omega
       have qy:t<ts.length:=by rw [PD.out];exact Wv
       obtain ⟨b',q',rfl⟩:=Yq.base (by omega) (by omega)
       have mh:=pa da hb;obtain ⟨jv,yz⟩:=RLin.at_ (Yq.below EF mh) qy;have Qs:=Jf _ _ jv;simp only at Qs;have hv:=HVj.out t qy;have iz:=zH (HTS.out t);revert jv yz hv iz
       generalize ts.getD t (0,0)=tm;obtain ⟨v,co⟩:=tm;intro jv yz hv iz;simp only at jv yz hv;obtain ⟨v1,Xi⟩:=zEX (v-1);obtain ⟨v2,ah⟩:=zEX (v1-(pu:Int));have BC:=HSEC.out;have y1:v-1=v1:=Xi.symm;have y2:vq.wrap v1=v1:=Vk _ (by omega) (by omega)
       have y3:v1-(pu:Int)=v2:=ah.symm;have y4:vq.wrap v2=v2:=Vk _ (by omega) (by omega)
       have HTF:=zH (show fT (t+1)=if 0 <= v2 then xf (fT t) v2.toNat ((fT t v2.toNat+Zf L.p (pw m*co%L.p))%L.p) else fT t by rw [iz.out,ah,Xi];rfl)
       have ry:v2<(L.secret:Int):=by omega
       have kt1:=ja kt hb;have Qk:=ja kl hb;have ct:=kt1.cell;have cl:=Qk.cell;clear Xi ah BC hv iz;by_cases hz:0 <= v2
       ·have d1:decide ((0:Int) <= v2)=true:=tb hz
        have d2:decide (v2<(L.secret:Int))=true:=tb ry;obtain ⟨s,rfl⟩:=Zk hz;have hsl:s<L.secret:=by omega
        obtain ⟨a,ha⟩:=zEX (fT t s);obtain ⟨px,Yo⟩:=zEX (pw m);obtain ⟨u,hu⟩:=zEX (px*co%L.p);obtain ⟨r,hr⟩:=zEX ((a+Zf L.p u)%L.p);have ig:=zH (show (Qa L.secret (fT t)).setIfInBounds s (vd vn r)=Qa L.secret (fT (t+1)) by
         rw [Oq,HTF.out,Na hz,Bk,hr,hu,Yo,ha])
        have Gf:=zH (fun w=>by have:=HM.out px co w;rw [<- hu] at this;exact this)
        have Bh:=zH (fun w=>by have:=HS.out a u w;rw [<- hr] at this;exact this)
        have HA:=zH ha;have ma:=(Ca wr.1.size wr).alloc zR (.cells #[vd vq v,vd vn co] 208);have kx:=Blk.new wr 208 #[vd vq v,vd vn co];have CB:=(ja kp hb).cell m;have hpx2:=Yo;rw [Mf _ Bu] at CB;clear hu hr ha;have lt1:=kt1.lt;have ll1:=Qk.lt;go_upto_region 18 with fail
        replace kg:=ja kg ma;replace hb:=pa hb ma;clear ct cl kt1 Qk CB ma lt1 ll1;generalize wr.alloc _=w6 at kg kx hb |-;generalize wr.1.size=gx at kx |-;have yc:=ja kf hb;have NI:=ja kp hb;have cf:=yc.cell;have lf:=yc.lt;have CB:=NI.cell m;rw [Mf _ Bu] at CB;have lp:=NI.lt;have cx:=kx.cell;have lx:=kx.lt;have cg:=kg.cell s;rw [Mf _ hsl,<- HA.out] at cg;have lg:=kg.lt;have Vm:pw m=px:=hpx2.symm;rw [Vm] at CB;clear Yo hpx2 Vm;refine Pg (Ub) (ra) [21] [21] [0,1,2,3,4,5,6,7,8,9,10,11,12,13,14,15,16,17,18,19,20,21] (by kernel_rfl) (by kernel_rfl) ?_
        refine Qg (ra) ?_;intro Wc ia;refine Te ?_;refine Dd (ra) rfl rfl rfl rfl (fun _ _ _ h=>h) (fun _=>by go_simp <;> rfl) (fun w' hR=>Gf.out _) ?_
        refine zPU ?_;refine Te ?_;refine Dd (ra) rfl rfl rfl rfl (fun _ _ _ h=>h) (fun _=>by go_simp <;> rfl) (fun w' hR=>Bh.out _) ?_
        refine zPU ?_;refine Te ?_;refine jo rfl rfl rfl rfl ?_;intro wh Kd;replace ia:=(ra).trans _ _ _ ia Kd;have Ob:=pa (Ca w6.1.size w6).drew ia;replace kg:=ja kg Ob;replace hb:=pa hb Ob;clear Ob ia Kd cf lf CB lp cx lx cg lg yc NI;have c3:=kg.cell s;rw [Mf _ hsl] at c3;have f3:=kg.frozen;go_simp;refine ⟨fun h=>Bool.noConfusion h,?_⟩
        have hg:=Hj (w:=wh) w4.1.size s (vd vn r);replace kg:=kg.set_ s (vd vn r);rw [ig.out] at kg;replace hb:=hb.trans (Rp hg hb.size zR);clear hg f3 c3;generalize wh.setCell _ _=we at kg hb |-;refine Ep rfl ?_;go_wp2_with fail
        go_roundw
        case rel=>exact ⟨t+1,by omega,by go_num,kg,hb⟩
        case measure=>simp [intOf];omega
       ·have d1:decide ((0:Int) <= v2)=false:=db hz
        have HTF2:=zH (show fT (t+1)=fT t by rw [HTF.out,ya hz])
        have ma:=(Ca wr.1.size wr).alloc zR (.cells #[vd vq v,vd vn co] 208);have lt1:=kt1.lt;have ll1:=Qk.lt;go_wp2_with fail
        replace kg:=ja kg ma;replace hb:=pa hb ma
        go_roundw
        case rel=>exact ⟨t+1,by omega,by go_num,by rw [HTF2.out];exact kg,hb⟩
        case measure=>simp [intOf];omega
      ·obtain rfl:t=ns:=by omega
       have q5:¬((t:Int)<t):=by omega
       rw [<- PD.out,<- bz.out] at kg;go_wp2_with fail
       go_roundw
       case rel=>exact ⟨j+1,by omega,by go_num,kg,hb⟩
       case measure=>simp [intOf];omega
    ·obtain rfl:j=3:=by omega
     rw [<- pL.out] at kg;go_wp2_with fail
     go_roundw
     case rel=>exact ⟨i+1,by omega,by go_num,kg,hb⟩
     case measure=>simp [intOf];omega
  ·obtain rfl:i=R:=by omega
   have q1:¬((i:Int)<i):=by omega
   have hS:=IB kg (fun k _=>il (HFX.out i (by rw [<- az.out];omega) k) ox.out) (by simp [maxLen];omega)
   have hP:=IB (ja kp hb) (fun k _=>Ur.out k) (by simp [maxLen];omega)
   obtain ⟨PL,hPL⟩:=zEX ((List.range R3).map pw);rw [<- hPL] at hP Rt Cn Dm;have Qk:=ja kl hb;have cl:=Qk.cell;have ll:=Qk.lt;have x1:i <= R3:=by have:=TD.out;omega
   have x2:R2 <= R3:=by have:=TD.out;have:=BN.out;omega
   have x3:i <= R2:=by have:=BN.out;omega
   have x4:(i:Int)<=R3:=by omega
   have x5:(R2:Int)<=R3:=by omega
   have x6:(i:Int)<=R2:=by omega
   have x7:(0:Int)<=i:=by omega
   have x8:(0:Int)<=R2:=by omega
   have h1:=iN hP x1;have h2:=NK (iN hP x2) x3;have h3:=NK hP x2;rw [Rt.out] at h1;rw [Cn.out] at h2;rw [Dm.out] at h3;have HQ4:=zH (show ∀ k,k<4 -> yf L.a L.b L.b L.b k=((yf ((List.range L.secret).map (fR i)) (bh L.p i La 0) (bh L.p i La 1) (bh L.p i La 2) k).length+L.block-1) / L.block from fun k hk=>by
    rcases (show k=0 \/ k=1 \/ k=2 \/ k=3 by omega) with rfl | rfl | rfl | rfl
    ·show L.a=(((List.range L.secret).map (fR i)).length+L.block-1) / L.block
     rw [Jm,Eo];exact HAE.out
    ·show L.b=((bh L.p i La 0).length+L.block-1) / L.block
     rw [bh,Jm,Eo];exact HBE.out
    ·show L.b=((bh L.p i La 1).length+L.block-1) / L.block
     rw [bh,Jm,Eo];exact HBE.out
    ·show L.b=((bh L.p i La 2).length+L.block-1) / L.block
     rw [bh,Jm,Eo];exact HBE.out)
   clear hPL hP kg Rt Cn Dm Qk;go_upto_region 22 with fail
   generalize (vE (⟨gp,0,vD⟩:vy))=PA at h1 h2 h3 |-;generalize (vE (⟨w4.1.size,0,vD⟩:vy))=SA at hS |-;refine zd (Ub) [15] [0,1,2,3,4,5,6,7,8,9,10,11,12,13,14,15,16] (by kernel_rfl) (by kernel_rfl) ?_
   refine Se (ra) ?_;intro Wc Ja ia;have Ka:=Tf Ja;replace hS:=Bb Ka hS;replace h1:=Bb Ka h1;replace h2:=Bb Ka h2;replace h3:=Bb Ka h3;rcases Ho i with hi0 | hi0
   ·have hr30:R3=0:=by have:=TD.out;omega
    have hr20:R2=0:=by have:=BN.out;omega
    subst hr30 hr20 hi0;have w0:vq.wrap 0=0:=by decide
    rw [Na rfl] at h2 h3;have hv:=zH (I9 hS h1 h2 h3);refine Qb ?_;refine Bc (ra) rfl rfl rfl (fun _=>by go_simp <;> rfl) ((HC.out _ _ _ _ _ _ _ _ _ hv.out HQ4.out).mono ?_)
    rintro e w7 ⟨v,rfl,hv7,xa⟩;refine ⟨_,rfl,xa,?_⟩;replace ia:=(ra).trans _ _ _ ia (xa);refine zPU ?_;refine Qb ?_;refine Jc ?_;go_wp2;go_ret
    exact ⟨v,rfl,hv7.mono (pa (pa da hb) Ka).size,pa (pa (pa da hb) Ka) xa⟩
   ·have sI:¬R3=i:=by have:=TD.out;omega
    have hne2:¬R3=R2:=by have:=TD.out;have:=BN.out;omega
    rw [ya sI] at h2;rw [ya hne2] at h3;have hv:=zH (I9 hS h1 h2 h3);refine Qb ?_;refine Bc (ra) rfl rfl rfl (fun _=>by go_simp <;> rfl) ((HC.out _ _ _ _ _ _ _ _ _ hv.out HQ4.out).mono ?_)
    rintro e w7 ⟨v,rfl,hv7,xa⟩;refine ⟨_,rfl,xa,?_⟩;replace ia:=(ra).trans _ _ _ ia (xa);refine zPU ?_;refine Qb ?_;refine Jc ?_;go_wp2;go_ret
    exact ⟨v,rfl,hv7.mono (pa (pa da hb) Ka).size,pa (pa (pa da hb) Ka) xa⟩
end Go.Proofs.YteoghgbnielkpaaGreat
