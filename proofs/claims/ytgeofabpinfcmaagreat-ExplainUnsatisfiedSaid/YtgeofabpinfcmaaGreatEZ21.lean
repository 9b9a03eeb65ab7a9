/- A part of the proof. No condition. -/
import Derived.Test.YtgeofabpinfcmaaGreatProg
import Derived.Test.YtgeofabpinfcmaaGreatEZ20

set_option maxRecDepth 100000
set_option maxHeartbeats 8000000
set_option linter.unusedVariables false
set_option linter.unusedSimpArgs false
namespace Go.Proofs.YtgeofabpinfcmaaGreat
open Go.RowKit
theorem AY (L:Ja) (pu rho:Nat) (vars:Int) (A:Option Addr) (R c:Nat) (rows:List Cb) (w:World) (hL:Db L) (hF:xl L pu vars rows) (hr:RSl 3 te w [.slice A R c] rows) (hV:mn vars rows) :
  Calls Tryz.prog 161 #[.agg (Ya L),pc L.p (pu:Int) vars (.slice A R c), .int .u64 rho] w fun e w'=>∃ v,e= .returned v /\ RRx w.heap.size w' v (iw L pu rho rows) /\ Below w.heap.size w w':=by
 obtain ⟨A',n',c',he,Eg,Td,Li,La⟩:=hr;simp at he
 obtain ⟨rfl,rfl,rfl⟩:=he;have Ga:=hL.b1;have hs:=hL.s;have Mi:=hL.r;have Ku:=hF.nr;have Ro:=hF.sec;have Hm:=hF.small;have hR:R=rows.length:=Eg.symm;have hLR:L.rows=R:=by omega
 have HBe:=zH (fun w=>rO L pu vars A R c rows w hL hF Eg)
 have HPw:=zH (fun n w hn=>oW L.p rho n w hL.p hn)
 have HM:=zH (fun a b w=>sn L.p a b w hL.p)
 have HS:=zH (fun a b w=>bB L.p a b w hL.p)
 have HC:=zH (fun v0 v1 v2 v3 l0 l1 l2 l3 w hv hq=>rR L v0 v1 v2 v3 l0 l1 l2 l3 w hL hv hq)
 have HAE:=zH hL.ae;have HBE:=zH (show L.b=(R+L.block-1) / L.block by rw [<- hLR];exact hL.be)
 obtain ⟨pw,Ll⟩:∃ pw:Nat -> Nat,pw=fun i=>rho^i%L.p:=⟨_,rfl⟩
 have HPWE:=zH (show (fun i=>rho^i%L.p)=pw from Ll.symm)
 have mo:=zH (show ∀ i,pw i<18446744073709551616 from fun i=>by rw [Ll];exact Nat.lt_trans (Nat.mod_lt _ (by have:=Va hL.p;omega)) (Va hL.p).2)
 obtain ⟨fR,hfR⟩:=zEX (gD L.p pu rows.length rho rows);have Qv:=zH (show fR 0=fun _=>0 by rw [hfR];rfl)
 have Jq:=zH (show ∀ i (hi:i<rows.length),fR (i+1)=Zu L.p pu R rho rows[i] i (fR i) 3 from fun i hi=>by
  rw [hfR,hR];show Zu L.p pu rows.length rho (rows.getD i ⟨[],[],[]⟩) i _ 3=_
  rw [List.getD_eq_getElem?_getD,List.getElem?_eq_getElem hi]
  rfl)
 have HSS:=zH (show ∀ (r:Cb) i (f:Nat -> Nat) j,Zu L.p pu R rho r i f (j+1)=Yk L.p pu (pw (j*R+i)) (Zu L.p pu R rho r i f j) (Mc r j) (Mc r j).length from fun r i f j=>by rw [Ll];rfl)
 have HFX0:=zH (show ∀ (x:Nat) (f:Nat -> Nat) ts t,(∀ k,f k<L.p) -> ∀ k,Yk L.p pu x f ts t k<L.p from fun x f ts t hf=>by
  induction t with
  | zero=>exact hf
  | succ t ih =>
   intro k;show zq L.p pu x (Yk L.p pu x f ts t) _ k<_
   unfold zq;split
   ·unfold ef
    split
    ·exact Nat.mod_lt _ (by have:=Va hL.p;omega)
    ·exact ih k
   ·exact ih k)
 have bA:=zH (show ∀ i,i <= rows.length -> ∀ k,fR i k<L.p from fun i=>by
  induction i with
  | zero=>intro _ k;rw [Qv.out];have:=Va hL.p;show 0<_;omega
  | succ i ih =>
   intro hi;rw [Jq.out i (by omega)]
   have h0:=ih (by omega)
   have h1:∀ j k,Zu L.p pu R rho rows[i] i (fR i) j k<L.p:=fun j=>by
    induction j with
    | zero=>exact h0
    | succ j jh=>exact HFX0.out _ _ _ _ jh
   exact h1 3)
 have Kb:=(Va hL.p).2;have dy:=zH Kb;have Tx:=zH (show iw L pu rho rows=sj L.block (Zc ((List.range L.secret).map (fR R)) (Cf L.p R rho 0) (Cf L.p R rho 1) (Cf L.p R rho 2)) (Zc L.a L.b L.b L.b) by rw [hfR,hR];rfl)
 have dA:=zH (show ((List.range (3*R)).map pw).take R=Cf L.p R rho 0 by
  rw [<- List.map_take,List.take_range,Nat.min_eq_left (by omega),Ll]
  unfold Cf;refine List.map_congr_left fun i _=>?_
  simp)
 have Bh:=zH (show (((List.range (3*R)).map pw).take (2*R)).drop R=Cf L.p R rho 1 by
  refine Om (by simp [Cf];omega) fun i hi=>?_
  simp at hi
  unfold Cf;rw [Qf,if_pos (by omega),List.getD_eq_getElem?_getD,List.getElem?_drop,List.getElem?_take,if_pos (by omega),List.getElem?_map,List.getElem?_range (by omega)]
  rw [Ll];simp)
 have Jv:=zH (show ((List.range (3*R)).map pw).drop (2*R)=Cf L.p R rho 2 by
  refine Om (by simp [Cf];omega) fun i hi=>?_
  simp at hi
  unfold Cf;rw [Qf,if_pos (by omega),List.getD_eq_getElem?_getD,List.getElem?_drop,List.getElem?_map,List.getElem?_range (by omega)]
  rw [Ll];simp)
 have Yj:=zH (show ∀ i (hi:i<rows.length) k,k<3 -> ∀ t (ht:t<(Mc rows[i] k).length),0 <= ((Mc rows[i] k).getD t (0,0)).1 /\ ((Mc rows[i] k).getD t (0,0)).1<vars from fun i hi k hk t ht=>by
  rw [List.getD_eq_getElem?_getD,List.getElem?_eq_getElem ht];exact hV _ (List.getElem_mem hi) k hk _ (List.getElem_mem ht))
 obtain ⟨R3,hR3⟩:=zEX (3*R);obtain ⟨R2,hR2⟩:=zEX (2*R);have e1:(3:Int)*(R:Int)=(R3:Int):=by omega
 have e2:=Yb R3;have e3:(2:Int)*(R:Int)=(R2:Int):=by omega
 have e4:=Yb R2;have mk:=mj L.secret (by omega)
 have gs:(L.secret:Int) <= 65536:=by omega
 have gs0:(0:Int) <= (L.secret:Int):=by omega
 have gR:R <= 16384:=by omega
 have gR3:R3 <= 65536:=by omega
 rw [<- hR3] at dA Bh Jv;rw [<- hR2] at Bh Jv;rw [Tx.out];have rD:=zH hR3;have CG:=zH hR2;have HRR:=zH hR;have yJ:=zH (And.intro Ro Hm);clear hV Ll hfR hL hF Ga hs Mi Ku Ro Hm hR3 hR2 Kb Tx HFX0 Td Li Eg hR;unfold Ya pc fv at *;rw [hLR] at HBe HC |-;clear hLR;obtain ⟨kl,kt,da,-⟩:=Ue w 49 25 #[.int .u64 L.p, .int .i64 L.block, .int .i64 L.queries, .int .i64 L.k, .int .i64 L.n, .int .i64 L.secret, .int .i64 R, .int .i64 L.a, .int .i64 L.b, .int .i64 L.b, .int .i64 L.b] #[.int .u64 L.p, .int .i64 pu, .int .i64 vars, .slice A R c];go_enter Tryz.func161,Tryz.ntmps161
 go_upto_region 1 with fail
 generalize (w.alloc _).alloc _=w1 at kl kt da |-;have cl:=kl.cell;have ct:=kt.cell;go_wp2_with fail
 refine (HBe.out _).mono ?_;rintro e w2 ⟨rfl,ea⟩;replace kl:=ia kl ea;replace kt:=ia kt ea;replace da:=oa da ea;clear ea cl ct HBe;have cl:=kl.cell;go_upto_region 4 with fail
 have kf:=Blk.new w2 223 #[.int .u64 L.p];have ma:=(Below.refl w2.heap.size w2).alloc zR (.cells #[.int .u64 L.p] 223);replace kl:=ia kl ma;replace kt:=ia kt ma;replace da:=oa da ma;generalize w2.alloc _=w3 at kl kt kf da |-;generalize w2.heap.size=gf at kf |-;clear ma cl;have cl:=kl.cell;have cf:=kf.cell;go_wp2_with fail
 refine (HPw.out R3 _ (by omega)).mono ?_
 rintro e w4 ⟨gp,rfl,-,kp,ea⟩;rw [HPWE.out] at kp;replace kl:=ia kl ea;replace kt:=ia kt ea;replace kf:=ia kf ea;replace da:=oa da ea;clear ea cl cf HPw;have cl:=kl.cell;go_upto_region 7 with fail
 have kg:=Blk.new w4 22 (Ha L.secret fun _=>0)
 have Ji:=(Below.refl w4.heap.size w4).alloc zR (.cells (Ha L.secret fun _=>0) 22)
 have ct:=(ia kt Ji).cell;clear cl mk;generalize w4.alloc _=w5 at kg Ji ct |-;have gRi:(R:Int) <= 16384:=by omega
 go_wp2_with fail
 clear ct;go_loopw [38] (fun y wr=>∃ i:Nat,i <= R /\ y= .int .i64 i /\ Blk wr w4.heap.size 22 (Ha L.secret (fR i)) /\ Below w4.heap.size w4 wr) (fun y _=>R-(intOf y).toNat)
 case atStart=>exact ⟨0,Nat.zero_le _,rfl,by rw [Qv.out];exact kg,Ji⟩
 case round =>
  clear kg Ji;obtain ⟨i,hi,rfl,kg,hb⟩:=hrel;by_cases za:i<R
  ·have q1:(i:Int)<(R:Int):=by omega
   have q2:(0:Int) <= (i:Int):=by omega
   have Ko:i<rows.length:=by have:=HRR.out;omega
   obtain ⟨b,q,rfl⟩:=La.base (by omega) (by omega)
   obtain ⟨cs,-,hc,x,y,z,rfl,Oc,Ee,fe⟩:=La.get Ko;have We:=oa da hb;have uc:=World.block_lt_of_cell? _ _ ((hc 0 (by omega)).trans (show [x,y,z][0]?=some x from rfl))
   have h0:=(We.cell (p:=⟨b,q+i*3+0,none⟩) uc).trans (hc 0 (by omega))
   have h1:=(We.cell (p:=⟨b,q+i*3+1,none⟩) uc).trans (hc 1 (by omega))
   have h2:=(We.cell (p:=⟨b,q+i*3+2,none⟩) uc).trans (hc 2 (by omega))
   rw [Nat.add_zero] at h0;simp only [List.getElem?_cons_zero,List.getElem?_cons_succ] at h0 h1 h2;have HRSi:=zH (Jq.out i Ko);have HVi:=zH (Yj.out i Ko);have BJ:=zH (HSS.out rows[i] i (fR i));obtain ⟨fS,hfS⟩:=zEX (Zu L.p pu R rho rows[i] i (fR i));have qo:=zH (show fS 0=fR i by rw [hfS];rfl)
   rw [<- hfS] at HRSi BJ;have HSd:=zH (show ∀ k,k<3 -> RLin w [if k=0 then x else if k=1 then y else z] (Mc rows[i] k) from fun k hk=>by
    unfold Mc;rcases (show k=0 \/ k=1 \/ k=2 by omega) with h | h | h <;> subst h
    ·exact Oc
    ·exact Ee
    ·exact fe)
   obtain ⟨sd,Gm⟩:=zEX (Mc rows[i]);rw [<- Gm] at HVi BJ HSd;obtain ⟨A1,n1,c1,rfl⟩:=RSl.slc Oc;obtain ⟨A2,n2,c2,rfl⟩:=RSl.slc Ee;obtain ⟨A3,n3,c3,rfl⟩:=RSl.slc fe;have ma:=(Below.refl wr.heap.size wr).alloc zR (.cells #[.slice A1 n1 c1, .slice A2 n2 c2, .slice A3 n3 c3] 189);clear hc Oc Ee fe hfS Gm We;have Wb:=World.block_lt_of_cell? _ _ h0;go_wp2_with fail
   go_loopw [50] (fun y wq=>∃ j:Nat,j <= 3 /\ y= .int .i64 j /\ Blk wq w4.heap.size 22 (Ha L.secret (fS j)) /\ Below w4.heap.size w4 wq) (fun y _=>3-(intOf y).toNat)
   case atStart=>exact ⟨0,by omega,rfl,by rw [qo.out];exact ia kg ma,oa hb ma⟩
   case round =>
    clear kg hb h0 h1 h2 ma Wb;obtain ⟨j,hj,rfl,kg,hb⟩:=hrel;by_cases Kw:j<3
    ·have q3:(j:Int)<3:=by omega
     have q4:(0:Int) <= (j:Int):=by omega
     have Qk:=HSd.out j Kw;have ix:=fun w=>EH (w:=w) (x:=.slice A1 n1 c1) (y:=.slice A2 n2 c2) (z:=.slice A3 n3 c3) Kw
     obtain ⟨sel,Jf⟩:=zEX ((if j=0 then Value.slice A1 n1 c1 else if j=1 then .slice A2 n2 c2 else .slice A3 n3 c3))
     rw [<- Jf] at Qk ix;have EG:=zH (BJ.out j);have HVj:=zH (HVi.out j Kw);obtain ⟨ts,hts⟩:=zEX (sd j);rw [<- hts] at Qk EG HVj;obtain ⟨jr,hjr⟩:=zEX (j*R);obtain ⟨m,hm⟩:=zEX (jr+i);rw [<- hjr,<- hm] at EG;have hjr2:jr <= 2*R:=by rw [hjr];exact Nat.mul_le_mul_right _ (by omega)
     have z1:(j:Int)*(R:Int)=(jr:Int):=by rw [hjr];exact (Int.natCast_mul _ _).symm
     have z2:=Yb jr;have z3:(jr:Int)+(i:Int)=(m:Int):=by omega
     have z4:=Yb m;have jf:m<R3:=by have:=rD.out;omega
     have z5:(m:Int)<(R3:Int):=by omega
     have z6:(0:Int) <= (m:Int):=by omega
     clear Jf hts hjr hm hjr2;obtain ⟨As,ns,ed,rfl⟩:=RSl.slc Qk;obtain ⟨A',n',c',he,Eg,Td,Li,Ww⟩:=Qk;simp at he
     obtain ⟨rfl,rfl,rfl⟩:=he;have gns:=Kf Td Li;have HNS:=zH Eg;obtain ⟨fT,Fw⟩:=zEX (Yk L.p pu (pw m) (fS j) ts);have HT0:=zH (show fT 0=fS j by rw [Fw];rfl)
     have HTS:=zH (show ∀ t,fT (t+1)=zq L.p pu (pw m) (fT t) (ts.getD t (0,0)) from fun t=>by rw [Fw];rfl)
     rw [<- Fw] at EG;clear Fw Eg Td Li;go_wp2_with fail
     go_loopw [56] (fun y wq=>∃ t:Nat,t <= ns /\ y= .int .i64 t /\ Blk wq w4.heap.size 22 (Ha L.secret (fT t)) /\ Below w4.heap.size w4 wq) (fun y _=>ns-(intOf y).toNat)
     case atStart=>exact ⟨0,Nat.zero_le _,rfl,by rw [HT0.out];exact kg,hb⟩
     case round =>
      clear kg hb;obtain ⟨t,ht,rfl,kg,hb⟩:=hrel;by_cases Yw:t<ns
      ·have q5:(t:Int)<(ns:Int):=by omega
       have q6:(0:Int) <= (t:Int):=by omega
       have htl:t<ts.length:=by rw [HNS.out];exact Yw
       obtain ⟨b',q',rfl⟩:=Ww.base (by omega) (by omega)
       have We:=oa da hb;obtain ⟨um,yo⟩:=RLin.at_ (Ww.below BC We) htl;have Nk:=World.block_lt_of_cell? _ _ um;simp only at Nk;have hv:=HVj.out t htl;have Uv:=zH (HTS.out t);revert um yo hv Uv
       generalize ts.getD t (0,0)=tm;obtain ⟨v,co⟩:=tm;intro um yo hv Uv;simp only at um yo hv;obtain ⟨v1,Ng⟩:=zEX (v-1);obtain ⟨v2,Zh⟩:=zEX (v1-(pu:Int));have Ro:=yJ.out;have y1:v-1=v1:=Ng.symm;have y2:IntKind.i64.wrap v1=v1:=Df _ (by omega) (by omega)
       have y3:v1-(pu:Int)=v2:=Zh.symm;have y4:IntKind.i64.wrap v2=v2:=Df _ (by omega) (by omega)
       have uA:=zH (show fT (t+1)=if 0 <= v2 then ef (fT t) v2.toNat ((fT t v2.toNat+oc L.p (pw m*co%L.p))%L.p) else fT t by rw [Uv.out,Zh,Ng];rfl)
       have hv3:v2<(L.secret:Int):=by omega
       have kt1:=ia kt hb;have Fe:=ia kl hb;have ct:=kt1.cell;have cl:=Fe.cell;clear Ng Zh Ro hv Uv;by_cases hz:0 <= v2
       ·have d1:decide ((0:Int) <= v2)=true:=decide_eq_true hz
        have d2:decide (v2<(L.secret:Int))=true:=decide_eq_true hv3;obtain ⟨s,rfl⟩:=Int.eq_ofNat_of_zero_le hz;have aq:s<L.secret:=by omega
        obtain ⟨a,ha⟩:=zEX (fT t s);obtain ⟨px,hpx⟩:=zEX (pw m);obtain ⟨u,hu⟩:=zEX (px*co%L.p);obtain ⟨r,hr⟩:=zEX ((a+oc L.p u)%L.p);have Xc:=zH (show (Ha L.secret (fT t)).setIfInBounds s (.int .u64 r)=Ha L.secret (fT (t+1)) by
         rw [zo,uA.out,if_pos hz,Int.toNat_natCast,hr,hu,hpx,ha])
        have yd:=zH (fun w=>by have:=HM.out px co w;rw [<- hu] at this;exact this)
        have Ef:=zH (fun w=>by have:=HS.out a u w;rw [<- hr] at this;exact this)
        have HA:=zH ha;have ma:=(Below.refl wr.heap.size wr).alloc zR (.cells #[.int .i64 v, .int .u64 co] 186);have kx:=Blk.new wr 186 #[.int .i64 v, .int .u64 co];have cpp:=(ia kp hb).cell m;have hpx2:=hpx;rw [dg _ jf] at cpp;clear hu hr ha;have lt1:=kt1.lt;have ll1:=Fe.lt;go_upto_region 18 with fail
        replace kg:=ia kg ma;replace hb:=oa hb ma;clear ct cl kt1 Fe cpp ma lt1 ll1;generalize wr.alloc _=w6 at kg kx hb |-;generalize wr.heap.size=gx at kx |-;have Ec:=ia kf hb;have kp1:=ia kp hb;have cf:=Ec.cell;have lf:=Ec.lt;have cpp:=kp1.cell m;rw [dg _ jf] at cpp;have lp:=kp1.lt;have cx:=kx.cell;have lx:=kx.lt;have cg:=kg.cell s;rw [dg _ aq,<- HA.out] at cg;have lg:=kg.lt;have Ll:pw m=px:=hpx2.symm;rw [Ll] at cpp;clear hpx hpx2 Ll;refine Hd (Ib) (xa) [21] [21] [0,1,2,3,4,5,6,7,8,9,10,11,12,13,14,15,16,17,18,19,20,21] (by kernel_rfl) (by kernel_rfl) ?_
        refine Jd (xa) ?_;intro Wc ja;refine Sc ?_;refine vc (xa) rfl rfl rfl rfl (fun _ _ _ h=>h) (fun _=>by go_simp <;> rfl) (fun w' hR=>yd.out _) ?_
        simp only [Act.put,zLa,zLb,zLc];refine Sc ?_;refine vc (xa) rfl rfl rfl rfl (fun _ _ _ h=>h) (fun _=>by go_simp <;> rfl) (fun w' hR=>Ef.out _) ?_
        simp only [Act.put,zLa,zLb,zLc];refine Sc ?_;refine Ph rfl rfl rfl rfl ?_;intro wh tc;replace ja:=(xa).trans _ _ _ ja tc;have Za:=oa (Below.refl w6.heap.size w6).drew ja;replace kg:=ia kg Za;replace hb:=oa hb Za;clear Za ja tc cf lf cpp lp cx lx cg lg Ec kp1;have c3:=kg.cell s;rw [dg _ aq] at c3;have f3:=kg.frozen;go_simp;refine ⟨fun h=>Bool.noConfusion h,?_⟩
        have hg:=Me (w:=wh) w4.heap.size s (.int .u64 r);replace kg:=kg.set_ s (.int .u64 r);rw [Xc.out] at kg;replace hb:=hb.trans (Ff hg hb.size zR);clear hg f3 c3;generalize wh.setCell _ _=we at kg hb |-;refine Oh rfl ?_;go_wp2_with fail
        go_roundw
        case rel=>exact ⟨t+1,by omega,by go_num,kg,hb⟩
        case measure=>simp [intOf];omega
       ·have d1:decide ((0:Int) <= v2)=false:=decide_eq_false hz
        have DJ:=zH (show fT (t+1)=fT t by rw [uA.out,if_neg hz])
        have ma:=(Below.refl wr.heap.size wr).alloc zR (.cells #[.int .i64 v, .int .u64 co] 186);have lt1:=kt1.lt;have ll1:=Fe.lt;go_wp2_with fail
        replace kg:=ia kg ma;replace hb:=oa hb ma
        go_roundw
        case rel=>exact ⟨t+1,by omega,by go_num,by rw [DJ.out];exact kg,hb⟩
        case measure=>simp [intOf];omega
      ·obtain rfl:t=ns:=by omega
       have q5:¬((t:Int)<(t:Int)):=by omega
       rw [<- HNS.out,<- EG.out] at kg;go_wp2_with fail
       go_roundw
       case rel=>exact ⟨j+1,by omega,by go_num,kg,hb⟩
       case measure=>simp [intOf];omega
    ·obtain rfl:j=3:=by omega
     rw [<- HRSi.out] at kg;go_wp2_with fail
     go_roundw
     case rel=>exact ⟨i+1,by omega,by go_num,kg,hb⟩
     case measure=>simp [intOf];omega
  ·obtain rfl:i=R:=by omega
   have q1:¬((i:Int)<(i:Int)):=by omega
   have hS:=jk kg (fun k _=>Nat.lt_trans (bA.out i (by rw [<- HRR.out];omega) k) dy.out) (by simp [maxLen];omega)
   have hP:=jk (ia kp hb) (fun k _=>mo.out k) (by simp [maxLen];omega)
   obtain ⟨PL,vw⟩:=zEX ((List.range R3).map pw);rw [<- vw] at hP dA Bh Jv;have Fe:=ia kl hb;have cl:=Fe.cell;have ll:=Fe.lt;have x1:i <= R3:=by have:=rD.out;omega
   have x2:R2 <= R3:=by have:=rD.out;have:=CG.out;omega
   have x3:i <= R2:=by have:=CG.out;omega
   have x4:(i:Int) <= (R3:Int):=by omega
   have x5:(R2:Int) <= (R3:Int):=by omega
   have x6:(i:Int) <= (R2:Int):=by omega
   have x7:(0:Int) <= (i:Int):=by omega
   have x8:(0:Int) <= (R2:Int):=by omega
   have h1:=gG hP x1;have h2:=LM (gG hP x2) x3;have h3:=LM hP x2;rw [dA.out] at h1;rw [Bh.out] at h2;rw [Jv.out] at h3;have HQ4:=zH (show ∀ k,k<4 -> Zc L.a L.b L.b L.b k=((Zc ((List.range L.secret).map (fR i)) (Cf L.p i rho 0) (Cf L.p i rho 1) (Cf L.p i rho 2) k).length+L.block-1) / L.block from fun k hk=>by
    rcases (show k=0 \/ k=1 \/ k=2 \/ k=3 by omega) with rfl | rfl | rfl | rfl
    ·show L.a=(((List.range L.secret).map (fR i)).length+L.block-1) / L.block
     rw [List.length_map,List.length_range];exact HAE.out
    ·show L.b=((Cf L.p i rho 0).length+L.block-1) / L.block
     rw [Cf,List.length_map,List.length_range];exact HBE.out
    ·show L.b=((Cf L.p i rho 1).length+L.block-1) / L.block
     rw [Cf,List.length_map,List.length_range];exact HBE.out
    ·show L.b=((Cf L.p i rho 2).length+L.block-1) / L.block
     rw [Cf,List.length_map,List.length_range];exact HBE.out)
   clear vw hP kg dA Bh Jv Fe;go_upto_region 22 with fail
   generalize (some (⟨gp,0,none⟩:Addr))=PA at h1 h2 h3 |-;generalize (some (⟨w4.heap.size,0,none⟩:Addr))=SA at hS |-;refine Rc (Ib) [15] [0,1,2,3,4,5,6,7,8,9,10,11,12,13,14,15,16] (by kernel_rfl) (by kernel_rfl) ?_
   refine vd (xa) ?_;intro Wc Na ja;have ya:=Cc Na;replace hS:=ta ya hS;replace h1:=ta ya h1;replace h2:=ta ya h2;replace h3:=ta ya h3;rcases Nat.eq_zero_or_pos i with Zs | Zs
   ·have hr30:R3=0:=by have:=rD.out;omega
    have hr20:R2=0:=by have:=CG.out;omega
    subst hr30 hr20 Zs;have w0:IntKind.i64.wrap 0=0:=by decide
    rw [if_pos rfl] at h2 h3;have hv:=zH (UM hS h1 h2 h3);refine pb ?_;refine Mb (xa) rfl rfl rfl (fun _=>by go_simp <;> rfl) ((HC.out _ _ _ _ _ _ _ _ _ hv.out HQ4.out).mono ?_)
    rintro e w7 ⟨v,rfl,hv7,ea⟩;refine ⟨_,rfl,ea,?_⟩;replace ja:=(xa).trans _ _ _ ja (ea);simp only [Act.put,zLa,zLb,zLc];refine pb ?_;refine Fc ?_;go_wp2;go_ret
    exact ⟨v,rfl,hv7.mono (oa (oa da hb) ya).size,oa (oa (oa da hb) ya) ea⟩
   ·have RK:¬R3=i:=by have:=rD.out;omega
    have SK:¬R3=R2:=by have:=rD.out;have:=CG.out;omega
    rw [if_neg RK] at h2;rw [if_neg SK] at h3;have hv:=zH (UM hS h1 h2 h3);refine pb ?_;refine Mb (xa) rfl rfl rfl (fun _=>by go_simp <;> rfl) ((HC.out _ _ _ _ _ _ _ _ _ hv.out HQ4.out).mono ?_)
    rintro e w7 ⟨v,rfl,hv7,ea⟩;refine ⟨_,rfl,ea,?_⟩;replace ja:=(xa).trans _ _ _ ja (ea);simp only [Act.put,zLa,zLb,zLc];refine pb ?_;refine Fc ?_;go_wp2;go_ret
    exact ⟨v,rfl,hv7.mono (oa (oa da hb) ya).size,oa (oa (oa da hb) ya) ea⟩
end Go.Proofs.YtgeofabpinfcmaaGreat
