/- A part of the proof. No condition. -/
import Derived.Test.YteoghgbnielkpaaGreatTH12

set_option maxRecDepth 100000
set_option maxHeartbeats 8000000
set_option linter.unusedVariables false
set_option linter.unusedSimpArgs false
namespace Go.Proofs.YteoghgbnielkpaaGreat
open Go.RowKit
open Tryz
open Go renaming World->vw, Addr->vy, Calls->vB
open Go.Value renaming int->vd, slice->ve, agg->vf
open Go.IntKind renaming u64->vn, i64->vq
open Go.Ending renaming returned->vl
open Go.RowKit renaming Below->vA
open Go.Act renaming put->vG
open Option renaming none->vD, some->vE
theorem E3 (L:Ra) (pu Ka:Nat) (vars:Int) (A:Option vy) (R c:Nat) (rows:List Ya) (w:vw) (hL:Rb L) (hF:cu L pu vars rows) (hr:RSl 3 oe w [ve A R c] rows) (hV:ox vars rows) :
  vB prog 141 #[vf (Db L),sc L.p (pu:Int) vars (ve A R c),vd vn Ka] w fun e w'=>∃ v,e=vl v /\ RRx w.1.size w' v (mv L pu Ka rows) /\ vA w.1.size w w':=by
 obtain ⟨A',n',c',he,zg,He,ah,Ma⟩:=hr;simp at he
 obtain ⟨rfl,rfl,rfl⟩:=he;have Ca:=hL.b1;have hs:=hL.s;have Oo:=hL.r;have Rz:=hF.nr;have xC:=hF.sec;have jt:=hF.small;have hR:R=rows.length:=zg.symm;have hLR:L.rows=R:=by omega
 have jo:=zH (fun w=>YQ L pu vars A R c rows w hL hF zg)
 have GD:=zH (fun n w hn=>OR L.p Ka n w hL.p hn)
 have HM:=zH (fun a b w=>Gq L.p a b w hL.p)
 have HS:=zH (fun a b w=>kL L.p a b w hL.p)
 have HC:=zH (fun v0 v1 v2 v3 l0 l1 l2 l3 w hv hq=>J3 L v0 v1 v2 v3 l0 l1 l2 l3 w hL hv hq)
 have HAE:=zH hL.ae;have Lw:=zH (show L.b=(R+L.block-1) / L.block by rw [<- hLR];exact hL.be)
 obtain ⟨pw,Gm⟩:∃ pw:Nat -> Nat,pw=fun i=>Ka^i%L.p:=⟨_,rfl⟩
 have rQ:=zH (show (fun i=>Ka^i%L.p)=pw from Gm.symm)
 have Rr:=zH (show ∀ i,pw i<18446744073709551616 from fun i=>by rw [Gm];exact Eh (ic _ (by have:=Nb hL.p;omega)) (Nb hL.p).2)
 obtain ⟨fR,Jv⟩:=zEX (JI L.p pu rows.length Ka rows);have Wy:=zH (show fR 0=fun _=>0 by rw [Jv];rfl)
 have Xy:=zH (show ∀ i (hi:i<rows.length),fR (i+1)=xA L.p pu R Ka rows[i] i (fR i) 3 from fun i hi=>by
  rw [Jv,hR];show xA L.p pu rows.length Ka (rows.getD i ⟨[],[],[]⟩) i _ 3=_
  rw [Jb,oc hi]
  rfl)
 have HSS:=zH (show ∀ (r:Ya) i (f:Nat -> Nat) j,xA L.p pu R Ka r i f (j+1)=tw L.p pu (pw (j*R+i)) (xA L.p pu R Ka r i f j) (Nc r j) (Nc r j).length from fun r i f j=>by rw [Gm];rfl)
 have HFX0:=zH (show ∀ (x:Nat) (f:Nat -> Nat) ts t,(∀ k,f k<L.p) -> ∀ k,tw L.p pu x f ts t k<L.p from fun x f ts t hf=>by
  induction t with
  | zero=>exact hf
  | succ t ih =>
   intro k;show DA L.p pu x (tw L.p pu x f ts t) _ k<_
   unfold DA;split
   ·unfold df
    split
    ·exact ic _ (by have:=Nb hL.p;omega)
    ·exact ih k
   ·exact ih k)
 have HFX:=zH (show ∀ i,i <= rows.length -> ∀ k,fR i k<L.p from fun i=>by
  induction i with
  | zero=>intro _ k;rw [Wy.out];have:=Nb hL.p;show 0<_;omega
  | succ i ih =>
   intro hi;rw [Xy.out i (by omega)]
   have h0:=ih (by omega)
   have h1:∀ j k,xA L.p pu R Ka rows[i] i (fR i) j k<L.p:=fun j=>by
    induction j with
    | zero=>exact h0
    | succ j jh=>exact HFX0.out _ _ _ _ jh
   exact h1 3)
 have uc:=(Nb hL.p).2;have Uw:=zH uc;have HCP:=zH (show mv L pu Ka rows=Gp L.block (ef ((List.range L.secret).map (fR R)) (Pg L.p R Ka 0) (Pg L.p R Ka 1) (Pg L.p R Ka 2)) (ef L.a L.b L.b L.b) by rw [Jv,hR];rfl)
 have Qt:=zH (show ((List.range (3*R)).map pw).take R=Pg L.p R Ka 0 by
  rw [<- List.map_take,List.take_range,Nat.min_eq_left (by omega),Gm]
  unfold Pg;refine Uu fun i _=>?_
  simp)
 have rp:=zH (show (((List.range (3*R)).map pw).take (2*R)).drop R=Pg L.p R Ka 1 by
  refine tF (by simp [Pg];omega) fun i hi=>?_
  simp at hi
  unfold Pg;rw [Yk,Qa (by omega),Jb,List.getElem?_drop,List.getElem?_take,Qa (by omega),Yt,dz (by omega)]
  rw [Gm];simp)
 have Hk:=zH (show ((List.range (3*R)).map pw).drop (2*R)=Pg L.p R Ka 2 by
  refine tF (by simp [Pg];omega) fun i hi=>?_
  simp at hi
  unfold Pg;rw [Yk,Qa (by omega),Jb,List.getElem?_drop,Yt,dz (by omega)]
  rw [Gm];simp)
 have Wt:=zH (show ∀ i (hi:i<rows.length) k,k<3 -> ∀ t (ht:t<(Nc rows[i] k).length),0 <= ((Nc rows[i] k).getD t (0,0)).1 /\ ((Nc rows[i] k).getD t (0,0)).1<vars from fun i hi k hk t ht=>by
  rw [Jb,oc ht];exact hV _ (wg hi) k hk _ (wg ht))
 obtain ⟨R3,hR3⟩:=zEX (3*R);obtain ⟨R2,hR2⟩:=zEX (2*R);have e1:(3:Int)*R=(R3:Int):=by omega
 have e2:=Ce R3;have e3:(2:Int)*R=(R2:Int):=by omega
 have e4:=Ce R2;have mk:=Yv L.secret (by omega)
 have gs:(L.secret:Int) <= 65536:=by omega
 have gs0:(0:Int)<=L.secret:=by omega
 have gR:R <= 16384:=by omega
 have gR3:R3 <= 65536:=by omega
 rw [<- hR3] at Qt rp Hk;rw [<- hR2] at rp Hk;rw [HCP.out];have ID:=zH hR3;have PM:=zH hR2;have pG:=zH hR;have HSEC:=zH (And.intro xC jt);clear hV Gm Jv hL hF Ca hs Oo Rz xC jt hR3 hR2 uc HCP HFX0 He ah zg hR;unfold Db sc fv at *;rw [hLR] at jo HC |-;clear hLR;obtain ⟨kl,kt,da,-⟩:=Ih w 101 25 #[vd vn L.p,vd vq L.block,vd vq L.queries,vd vq L.k,vd vq L.n,vd vq L.secret,vd vq R,vd vq L.a,vd vq L.b,vd vq L.b,vd vq L.b] #[vd vn L.p,vd vq pu,vd vq vars,ve A R c];go_enter func141,ntmps141
 go_upto_region 1 with fail
 generalize (w.alloc _).alloc _=w1 at kl kt da |-;have cl:=kl.cell;have ct:=kt.cell;go_wp2_with fail
 refine (jo.out _).mono ?_;rintro e w2 ⟨rfl,ta⟩;replace kl:=ia kl ta;replace kt:=ia kt ta;replace da:=ma da ta;clear ta cl ct jo;have cl:=kl.cell;go_upto_region 4 with fail
 have kf:=Blk.new w2 224 #[vd vn L.p];have ja:=(za w2.1.size w2).alloc zR (.cells #[vd vn L.p] 224);replace kl:=ia kl ja;replace kt:=ia kt ja;replace da:=ma da ja;generalize w2.alloc _=w3 at kl kt kf da |-;generalize w2.1.size=gf at kf |-;clear ja cl;have cl:=kl.cell;have cf:=kf.cell;go_wp2_with fail
 refine (GD.out R3 _ (by omega)).mono ?_
 rintro e w4 ⟨gp,rfl,-,kp,ta⟩;rw [rQ.out] at kp;replace kl:=ia kl ta;replace kt:=ia kt ta;replace kf:=ia kf ta;replace da:=ma da ta;clear ta cl cf GD;have cl:=kl.cell;go_upto_region 7 with fail
 have kg:=Blk.new w4 22 (Oa L.secret fun _=>0)
 have yn:=(za w4.1.size w4).alloc zR (.cells (Oa L.secret fun _=>0) 22)
 have ct:=(ia kt yn).cell;clear cl mk;generalize w4.alloc _=w5 at kg yn ct |-;have gRi:(R:Int) <= 16384:=by omega
 go_wp2_with fail
 clear ct;go_loopw [38] (fun y wr=>∃ i:Nat,i <= R /\ y=vd vq i /\ Blk wr w4.1.size 22 (Oa L.secret (fR i)) /\ vA w4.1.size w4 wr) (fun y _=>R-(intOf y).toNat)
 case atStart=>exact ⟨0,Lb _,rfl,by rw [Wy.out];exact kg,yn⟩
 case round =>
  clear kg yn;obtain ⟨i,hi,rfl,kg,hb⟩:=hrel;by_cases ra:i<R
  ·have q1:(i:Int)<R:=by omega
   have q2:(0:Int)<=i:=by omega
   have Qp:i<rows.length:=by have:=pG.out;omega
   obtain ⟨b,q,rfl⟩:=Ma.base (by omega) (by omega)
   obtain ⟨cs,-,hc,x,y,z,rfl,Yc,de,Nd⟩:=Ma.get Qp;have fj:=ma da hb;have Fb:=mf _ _ ((hc 0 (by omega)).trans (show [x,y,z][0]?=vE x from rfl))
   have h0:=(fj.cell (p:=⟨b,q+i*3+0,vD⟩) Fb).trans (hc 0 (by omega))
   have h1:=(fj.cell (p:=⟨b,q+i*3+1,vD⟩) Fb).trans (hc 1 (by omega))
   have h2:=(fj.cell (p:=⟨b,q+i*3+2,vD⟩) Fb).trans (hc 2 (by omega))
   rw [Nat.add_zero] at h0;simp only [List.getElem?_cons_zero,List.getElem?_cons_succ] at h0 h1 h2;have IK:=zH (Xy.out i Qp);have HVi:=zH (Wt.out i Qp);have qG:=zH (HSS.out rows[i] i (fR i));obtain ⟨fS,DH⟩:=zEX (xA L.p pu R Ka rows[i] i (fR i));have tq:=zH (show fS 0=fR i by rw [DH];rfl)
   rw [<- DH] at IK qG;have JD:=zH (show ∀ k,k<3 -> RLin w [if k=0 then x else if k=1 then y else z] (Nc rows[i] k) from fun k hk=>by
    unfold Nc;rcases (show k=0 \/ k=1 \/ k=2 by omega) with h | h | h <;> subst h
    ·exact Yc
    ·exact de
    ·exact Nd)
   obtain ⟨sd,uC⟩:=zEX (Nc rows[i]);rw [<- uC] at HVi qG JD;obtain ⟨A1,n1,c1,rfl⟩:=RSl.slc Yc;obtain ⟨A2,n2,c2,rfl⟩:=RSl.slc de;obtain ⟨A3,n3,c3,rfl⟩:=RSl.slc Nd;have ja:=(za wr.1.size wr).alloc zR (.cells #[ve A1 n1 c1,ve A2 n2 c2,ve A3 n3 c3] 211);clear hc Yc de Nd DH uC fj;have Gb:=mf _ _ h0;go_wp2_with fail
   go_loopw [50] (fun y wq=>∃ j:Nat,j <= 3 /\ y=vd vq j /\ Blk wq w4.1.size 22 (Oa L.secret (fS j)) /\ vA w4.1.size w4 wq) (fun y _=>3-(intOf y).toNat)
   case atStart=>exact ⟨0,by omega,rfl,by rw [tq.out];exact ia kg ja,ma hb ja⟩
   case round =>
    clear kg hb h0 h1 h2 ja Gb;obtain ⟨j,hj,rfl,kg,hb⟩:=hrel;by_cases Sk:j<3
    ·have q3:(j:Int)<3:=by omega
     have q4:(0:Int)<=j:=by omega
     have Uk:=JD.out j Sk;have ix:=fun w=>kO (w:=w) (x:=ve A1 n1 c1) (y:=ve A2 n2 c2) (z:=ve A3 n3 c3) Sk
     obtain ⟨sel,If⟩:=zEX ((if j=0 then ve A1 n1 c1 else if j=1 then ve A2 n2 c2 else ve A3 n3 c3))
     rw [<- If] at Uk ix;have Yy:=zH (qG.out j);have HVj:=zH (HVi.out j Sk);obtain ⟨ts,ZE⟩:=zEX (sd j);rw [<- ZE] at Uk Yy HVj;obtain ⟨jr,ZB⟩:=zEX (j*R);obtain ⟨m,hm⟩:=zEX (jr+i);rw [<- ZB,<- hm] at Yy;have DS:jr <= 2*R:=by rw [ZB];exact Nat.mul_le_mul_right _ (by omega)
     have z1:(j:Int)*R=(jr:Int):=by rw [ZB];exact (ig _ _).symm
     have z2:=Ce jr;have z3:(jr:Int)+i=(m:Int):=by omega
     have z4:=Ce m;have Rp:m<R3:=by have:=ID.out;omega
     have z5:(m:Int)<R3:=by omega
     have z6:(0:Int)<=m:=by omega
     clear If ZE ZB hm DS;obtain ⟨As,ns,je,rfl⟩:=RSl.slc Uk;obtain ⟨A',n',c',he,zg,He,ah,Sq⟩:=Uk;simp at he
     obtain ⟨rfl,rfl,rfl⟩:=he;have gns:=Tl He ah;have ED:=zH zg;obtain ⟨fT,hfT⟩:=zEX (tw L.p pu (pw m) (fS j) ts);have HT0:=zH (show fT 0=fS j by rw [hfT];rfl)
     have HTS:=zH (show ∀ t,fT (t+1)=DA L.p pu (pw m) (fT t) (ts.getD t (0,0)) from fun t=>by rw [hfT];rfl)
     rw [<- hfT] at Yy;clear hfT zg He ah;go_wp2_with fail
     go_loopw [56] (fun y wq=>∃ t:Nat,t <= ns /\ y=vd vq t /\ Blk wq w4.1.size 22 (Oa L.secret (fT t)) /\ vA w4.1.size w4 wq) (fun y _=>ns-(intOf y).toNat)
     case atStart=>exact ⟨0,Lb _,rfl,by rw [HT0.out];exact kg,hb⟩
     case round =>
      clear kg hb;obtain ⟨t,ht,rfl,kg,hb⟩:=hrel;by_cases Qv:t<ns
      ·have q5:(t:Int)<ns:=by omega
       have q6:(0:Int)<=t:=by omega
       have jy:t<ts.length:=by rw [ED.out];exact Qv
       obtain ⟨b',q',rfl⟩:=Sq.base (by omega) (by omega)
       have fj:=ma da hb;obtain ⟨Es,rz⟩:=RLin.at_ (Sq.below lF fj) jy;have Io:=mf _ _ Es;simp only at Io;have hv:=HVj.out t jy;have az:=zH (HTS.out t);revert Es rz hv az
       generalize ts.getD t (0,0)=tm;obtain ⟨v,co⟩:=tm;intro Es rz hv az;simp only at Es rz hv;obtain ⟨v1,Mi⟩:=zEX (v-1);obtain ⟨v2,Ni⟩:=zEX (v1-(pu:Int));have xC:=HSEC.out;have y1:v-1=v1:=Mi.symm;have y2:vq.wrap v1=v1:=Vi _ (by omega) (by omega)
       have y3:v1-(pu:Int)=v2:=Ni.symm;have y4:vq.wrap v2=v2:=Vi _ (by omega) (by omega)
       have HTF:=zH (show fT (t+1)=if 0 <= v2 then df (fT t) v2.toNat ((fT t v2.toNat+Rf L.p (pw m*co%L.p))%L.p) else fT t by rw [az.out,Ni,Mi];rfl)
       have zC:v2<(L.secret:Int):=by omega
       have kt1:=ia kt hb;have zk:=ia kl hb;have ct:=kt1.cell;have cl:=zk.cell;clear Mi Ni xC hv az;by_cases hz:0 <= v2
       ·have d1:decide ((0:Int) <= v2)=true:=yb hz
        have d2:decide (v2<(L.secret:Int))=true:=yb zC;obtain ⟨s,rfl⟩:=Kk hz;have hsl:s<L.secret:=by omega
        obtain ⟨a,ha⟩:=zEX (fT t s);obtain ⟨px,Mo⟩:=zEX (pw m);obtain ⟨u,hu⟩:=zEX (px*co%L.p);obtain ⟨r,hr⟩:=zEX ((a+Rf L.p u)%L.p);have Wg:=zH (show (Oa L.secret (fT t)).setIfInBounds s (vd vn r)=Oa L.secret (fT (t+1)) by
         rw [Hq,HTF.out,Qa hz,Lk,hr,hu,Mo,ha])
        have Le:=zH (fun w=>by have:=HM.out px co w;rw [<- hu] at this;exact this)
        have Vg:=zH (fun w=>by have:=HS.out a u w;rw [<- hr] at this;exact this)
        have HA:=zH ha;have ja:=(za wr.1.size wr).alloc zR (.cells #[vd vq v,vd vn co] 208);have kx:=Blk.new wr 208 #[vd vq v,vd vn co];have zB:=(ia kp hb).cell m;have hpx2:=Mo;rw [Ff _ Rp] at zB;clear hu hr ha;have lt1:=kt1.lt;have ll1:=zk.lt;go_upto_region 18 with fail
        replace kg:=ia kg ja;replace hb:=ma hb ja;clear ct cl kt1 zk zB ja lt1 ll1;generalize wr.alloc _=w6 at kg kx hb |-;generalize wr.1.size=gx at kx |-;have Hc:=ia kf hb;have gI:=ia kp hb;have cf:=Hc.cell;have lf:=Hc.lt;have zB:=gI.cell m;rw [Ff _ Rp] at zB;have lp:=gI.lt;have cx:=kx.cell;have lx:=kx.lt;have cg:=kg.cell s;rw [Ff _ hsl,<- HA.out] at cg;have lg:=kg.lt;have Gm:pw m=px:=hpx2.symm;rw [Gm] at zB;clear Mo hpx2 Gm;refine Ve (Tb) (pa) [21] [21] [0,1,2,3,4,5,6,7,8,9,10,11,12,13,14,15,16,17,18,19,20,21] (by kernel_rfl) (by kernel_rfl) ?_
        refine Xe (pa) ?_;intro Wc ea;refine kd ?_;refine Uc (pa) rfl rfl rfl rfl (fun _ _ _ h=>h) (fun _=>by go_simp <;> rfl) (fun w' hR=>Le.out _) ?_
        refine zPU ?_;refine kd ?_;refine Uc (pa) rfl rfl rfl rfl (fun _ _ _ h=>h) (fun _=>by go_simp <;> rfl) (fun w' hR=>Vg.out _) ?_
        refine zPU ?_;refine kd ?_;refine Ti rfl rfl rfl rfl ?_;intro wh Bc;replace ea:=(pa).trans _ _ _ ea Bc;have Ub:=ma (za w6.1.size w6).drew ea;replace kg:=ia kg Ub;replace hb:=ma hb Ub;clear Ub ea Bc cf lf zB lp cx lx cg lg Hc gI;have c3:=kg.cell s;rw [Ff _ hsl] at c3;have f3:=kg.frozen;go_simp;refine ⟨fun h=>Bool.noConfusion h,?_⟩
        have hg:=Bj (w:=wh) w4.1.size s (vd vn r);replace kg:=kg.set_ s (vd vn r);rw [Wg.out] at kg;replace hb:=hb.trans (Ok hg hb.size zR);clear hg f3 c3;generalize wh.setCell _ _=we at kg hb |-;refine Dj rfl ?_;go_wp2_with fail
        go_roundw
        case rel=>exact ⟨t+1,by omega,by go_num,kg,hb⟩
        case measure=>simp [intOf];omega
       ·have d1:decide ((0:Int) <= v2)=false:=xb hz
        have HTF2:=zH (show fT (t+1)=fT t by rw [HTF.out,La hz])
        have ja:=(za wr.1.size wr).alloc zR (.cells #[vd vq v,vd vn co] 208);have lt1:=kt1.lt;have ll1:=zk.lt;go_wp2_with fail
        replace kg:=ia kg ja;replace hb:=ma hb ja
        go_roundw
        case rel=>exact ⟨t+1,by omega,by go_num,by rw [HTF2.out];exact kg,hb⟩
        case measure=>simp [intOf];omega
      ·obtain rfl:t=ns:=by omega
       have q5:¬((t:Int)<t):=by omega
       rw [<- ED.out,<- Yy.out] at kg;go_wp2_with fail
       go_roundw
       case rel=>exact ⟨j+1,by omega,by go_num,kg,hb⟩
       case measure=>simp [intOf];omega
    ·obtain rfl:j=3:=by omega
     rw [<- IK.out] at kg;go_wp2_with fail
     go_roundw
     case rel=>exact ⟨i+1,by omega,by go_num,kg,hb⟩
     case measure=>simp [intOf];omega
  ·obtain rfl:i=R:=by omega
   have q1:¬((i:Int)<i):=by omega
   have hS:=FB kg (fun k _=>Eh (HFX.out i (by rw [<- pG.out];omega) k) Uw.out) (by simp [maxLen];omega)
   have hP:=FB (ia kp hb) (fun k _=>Rr.out k) (by simp [maxLen];omega)
   obtain ⟨PL,hPL⟩:=zEX ((List.range R3).map pw);rw [<- hPL] at hP Qt rp Hk;have zk:=ia kl hb;have cl:=zk.cell;have ll:=zk.lt;have x1:i <= R3:=by have:=ID.out;omega
   have x2:R2 <= R3:=by have:=ID.out;have:=PM.out;omega
   have x3:i <= R2:=by have:=PM.out;omega
   have x4:(i:Int)<=R3:=by omega
   have x5:(R2:Int)<=R3:=by omega
   have x6:(i:Int)<=R2:=by omega
   have x7:(0:Int)<=i:=by omega
   have x8:(0:Int)<=R2:=by omega
   have h1:=IP hP x1;have h2:=tM (IP hP x2) x3;have h3:=tM hP x2;rw [Qt.out] at h1;rw [rp.out] at h2;rw [Hk.out] at h3;have HQ4:=zH (show ∀ k,k<4 -> ef L.a L.b L.b L.b k=((ef ((List.range L.secret).map (fR i)) (Pg L.p i Ka 0) (Pg L.p i Ka 1) (Pg L.p i Ka 2) k).length+L.block-1) / L.block from fun k hk=>by
    rcases (show k=0 \/ k=1 \/ k=2 \/ k=3 by omega) with rfl | rfl | rfl | rfl
    ·show L.a=(((List.range L.secret).map (fR i)).length+L.block-1) / L.block
     rw [fk,nm];exact HAE.out
    ·show L.b=((Pg L.p i Ka 0).length+L.block-1) / L.block
     rw [Pg,fk,nm];exact Lw.out
    ·show L.b=((Pg L.p i Ka 1).length+L.block-1) / L.block
     rw [Pg,fk,nm];exact Lw.out
    ·show L.b=((Pg L.p i Ka 2).length+L.block-1) / L.block
     rw [Pg,fk,nm];exact Lw.out)
   clear hPL hP kg Qt rp Hk zk;go_upto_region 22 with fail
   generalize (vE (⟨gp,0,vD⟩:vy))=PA at h1 h2 h3 |-;generalize (vE (⟨w4.1.size,0,vD⟩:vy))=SA at hS |-;refine Cd (Tb) [15] [0,1,2,3,4,5,6,7,8,9,10,11,12,13,14,15,16] (by kernel_rfl) (by kernel_rfl) ?_
   refine De (pa) ?_;intro Wc Ha ea;have Ja:=Tf Ha;replace hS:=Bb Ja hS;replace h1:=Bb Ja h1;replace h2:=Bb Ja h2;replace h3:=Bb Ja h3;rcases xo i with hi0 | hi0
   ·have hr30:R3=0:=by have:=ID.out;omega
    have hr20:R2=0:=by have:=PM.out;omega
    subst hr30 hr20 hi0;have w0:vq.wrap 0=0:=by decide
    rw [Qa rfl] at h2 h3;have hv:=zH (T6 hS h1 h2 h3);refine Ob ?_;refine Gc (pa) rfl rfl rfl (fun _=>by go_simp <;> rfl) ((HC.out _ _ _ _ _ _ _ _ _ hv.out HQ4.out).mono ?_)
    rintro e w7 ⟨v,rfl,hv7,ta⟩;refine ⟨_,rfl,ta,?_⟩;replace ea:=(pa).trans _ _ _ ea (ta);refine zPU ?_;refine Ob ?_;refine Qc ?_;go_wp2;go_ret
    exact ⟨v,rfl,hv7.mono (ma (ma da hb) Ja).size,ma (ma (ma da hb) Ja) ta⟩
   ·have MH:¬R3=i:=by have:=ID.out;omega
    have hne2:¬R3=R2:=by have:=ID.out;have:=PM.out;omega
    rw [La MH] at h2;rw [La hne2] at h3;have hv:=zH (T6 hS h1 h2 h3);refine Ob ?_;refine Gc (pa) rfl rfl rfl (fun _=>by go_simp <;> rfl) ((HC.out _ _ _ _ _ _ _ _ _ hv.out HQ4.out).mono ?_)
    rintro e w7 ⟨v,rfl,hv7,ta⟩;refine ⟨_,rfl,ta,?_⟩;replace ea:=(pa).trans _ _ _ ea (ta);refine zPU ?_;refine Ob ?_;refine Qc ?_;go_wp2;go_ret
    exact ⟨v,rfl,hv7.mono (ma (ma da hb) Ja).size,ma (ma (ma da hb) Ja) ta⟩
end Go.Proofs.YteoghgbnielkpaaGreat
