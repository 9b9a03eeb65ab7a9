/- A part of the proof. No condition. -/
import Derived.Test.YtjipleoamlmkfaaGreatProg
import Derived.Test.YtjipleoamlmkfaaGreatPF29

set_option maxRecDepth 100000
set_option maxHeartbeats 8000000
set_option linter.unusedVariables false
set_option linter.unusedSimpArgs false
namespace Go.Proofs.YtjipleoamlmkfaaGreat
open Go.RowKit
theorem dQ (L:Va) (pu ra:Nat) (vars:Int) (A:Option Addr) (R c:Nat) (rows:List Ya) (w:World) (hL:Vc L) (hF:ux L pu vars rows) (hr:RSl 3 Md w [.slice A R c] rows) (hV:pA vars rows) :
  Calls Tryz.prog 112 #[.agg (Ua L),Ib L.p (pu:Int) vars (.slice A R c), .int .u64 ra] w fun e w'=>∃ v,e= .returned v /\ RRx w.heap.size w' v (dt L pu ra rows) /\ Below w.heap.size w w':=by
 obtain ⟨A',n',c',he,Bf,Sc,kh,za⟩:=hr;simp at he
 obtain ⟨rfl,rfl,rfl⟩:=he;have ya:=hL.b1;have hs:=hL.s;have Ol:=hL.r;have RU:=hF.nr;have Vt:=hF.sec;have tn:=hF.small;have hR:R=rows.length:=Bf.symm;have hLR:L.rows=R:=by omega
 have zm:=zH (fun w=>LG L pu vars A R c rows w hL hF Bf)
 have HPw:=zH (fun n w hn=>KM L.p ra n w hL.p hn)
 have HM:=zH (fun a b w=>Lo L.p a b w hL.p)
 have HS:=zH (fun a b w=>LA L.p a b w hL.p)
 have HC:=zH (fun v0 v1 v2 v3 l0 l1 l2 l3 w hv hq=>wJ L v0 v1 v2 v3 l0 l1 l2 l3 w hL hv hq)
 have HAE:=zH hL.ae;have HBE:=zH (show L.b=(R+L.block-1) / L.block by rw [<- hLR];exact hL.be)
 obtain ⟨pw,rp⟩:∃ pw:Nat -> Nat,pw=fun i=>ra^i%L.p:=⟨_,rfl⟩
 have HPWE:=zH (show (fun i=>ra^i%L.p)=pw from rp.symm)
 have oR:=zH (show ∀ i,pw i<18446744073709551616 from fun i=>by rw [rp];exact Nat.lt_trans (Nat.mod_lt _ (by have:=nc hL.p;omega)) (nc hL.p).2)
 obtain ⟨fR,Wv⟩:=zEX (tF L.p pu rows.length ra rows);have zW:=zH (show fR 0=fun _=>0 by rw [Wv];rfl)
 have Ns:=zH (show ∀ i (hi:i<rows.length),fR (i+1)=tu L.p pu R ra rows[i] i (fR i) 3 from fun i hi=>by
  rw [Wv,hR];show tu L.p pu rows.length ra (rows.getD i ⟨[],[],[]⟩) i _ 3=_
  rw [List.getD_eq_getElem?_getD,List.getElem?_eq_getElem hi]
  rfl)
 have HSS:=zH (show ∀ (r:Ya) i (f:Nat -> Nat) j,tu L.p pu R ra r i f (j+1)=cy L.p pu (pw (j*R+i)) (tu L.p pu R ra r i f j) (Dd r j) (Dd r j).length from fun r i f j=>by rw [rp];rfl)
 have HFX0:=zH (show ∀ (x:Nat) (f:Nat -> Nat) ts t,(∀ k,f k<L.p) -> ∀ k,cy L.p pu x f ts t k<L.p from fun x f ts t hf=>by
  induction t with
  | zero=>exact hf
  | succ t ih =>
   intro k;show YB L.p pu x (cy L.p pu x f ts t) _ k<_
   unfold YB;split
   ·unfold Pe
    split
    ·exact Nat.mod_lt _ (by have:=nc hL.p;omega)
    ·exact ih k
   ·exact ih k)
 have eY:=zH (show ∀ i,i <= rows.length -> ∀ k,fR i k<L.p from fun i=>by
  induction i with
  | zero=>intro _ k;rw [zW.out];have:=nc hL.p;show 0<_;omega
  | succ i ih =>
   intro hi;rw [Ns.out i (by omega)]
   have h0:=ih (by omega)
   have h1:∀ j k,tu L.p pu R ra rows[i] i (fR i) j k<L.p:=fun j=>by
    induction j with
    | zero=>exact h0
    | succ j jh=>exact HFX0.out _ _ _ _ jh
   exact h1 3)
 have Lb:=(nc hL.p).2;have HP2:=zH Lb;have HCP:=zH (show dt L pu ra rows=Io L.block (xe ((List.range L.secret).map (fR R)) (Sf L.p R ra 0) (Sf L.p R ra 1) (Sf L.p R ra 2)) (xe L.a L.b L.b L.b) by rw [Wv,hR];rfl)
 have zk:=zH (show ((List.range (3*R)).map pw).take R=Sf L.p R ra 0 by
  rw [<- List.map_take,List.take_range,Nat.min_eq_left (by omega),rp]
  unfold Sf;refine List.map_congr_left fun i _=>?_
  simp)
 have ql:=zH (show (((List.range (3*R)).map pw).take (2*R)).drop R=Sf L.p R ra 1 by
  refine DE (by simp [Sf];omega) fun i hi=>?_
  simp at hi
  unfold Sf;rw [fF,if_pos (by omega),List.getD_eq_getElem?_getD,List.getElem?_drop,List.getElem?_take,if_pos (by omega),List.getElem?_map,List.getElem?_range (by omega)]
  rw [rp];simp)
 have Ug:=zH (show ((List.range (3*R)).map pw).drop (2*R)=Sf L.p R ra 2 by
  refine DE (by simp [Sf];omega) fun i hi=>?_
  simp at hi
  unfold Sf;rw [fF,if_pos (by omega),List.getD_eq_getElem?_getD,List.getElem?_drop,List.getElem?_map,List.getElem?_range (by omega)]
  rw [rp];simp)
 have EW:=zH (show ∀ i (hi:i<rows.length) k,k<3 -> ∀ t (ht:t<(Dd rows[i] k).length),0 <= ((Dd rows[i] k).getD t (0,0)).1 /\ ((Dd rows[i] k).getD t (0,0)).1<vars from fun i hi k hk t ht=>by
  rw [List.getD_eq_getElem?_getD,List.getElem?_eq_getElem ht];exact hV _ (List.getElem_mem hi) k hk _ (List.getElem_mem ht))
 obtain ⟨R3,hR3⟩:=zEX (3*R);obtain ⟨R2,fU⟩:=zEX (2*R);have e1:(3:Int)*(R:Int)=(R3:Int):=by omega
 have e2:=zd R3;have e3:(2:Int)*(R:Int)=(R2:Int):=by omega
 have e4:=zd R2;have mk:=Fp L.secret (by omega)
 have gs:(L.secret:Int) <= 65536:=by omega
 have gs0:(0:Int) <= (L.secret:Int):=by omega
 have gR:R <= 16384:=by omega
 have gR3:R3 <= 65536:=by omega
 rw [<- hR3] at zk ql Ug;rw [<- fU] at ql Ug;rw [HCP.out];have ox:=zH hR3;have Xz:=zH fU;have HRR:=zH hR;have R5:=zH (And.intro Vt tn);clear hV rp Wv hL hF ya hs Ol RU Vt tn hR3 fU Lb HCP HFX0 Sc kh Bf hR;unfold Ua Ib fv at *;rw [hLR] at zm HC |-;clear hLR;obtain ⟨kl,kt,aa,-⟩:=ah w 68 25 #[.int .u64 L.p, .int .i64 L.block, .int .i64 L.queries, .int .i64 L.k, .int .i64 L.n, .int .i64 L.secret, .int .i64 R, .int .i64 L.a, .int .i64 L.b, .int .i64 L.b, .int .i64 L.b] #[.int .u64 L.p, .int .i64 pu, .int .i64 vars, .slice A R c];go_enter Tryz.func112,Tryz.ntmps112
 go_upto_region 1 with fail
 generalize (w.alloc _).alloc _=w1 at kl kt aa |-;have cl:=kl.cell;have ct:=kt.cell;go_wp2_with fail
 refine (zm.out _).mono ?_;rintro e w2 ⟨rfl,Aa⟩;replace kl:=ea kl Aa;replace kt:=ea kt Aa;replace aa:=ja aa Aa;clear Aa cl ct zm;have cl:=kl.cell;go_upto_region 4 with fail
 have kf:=Blk.new w2 175 #[.int .u64 L.p];have ia:=(Below.refl w2.heap.size w2).alloc zR (.cells #[.int .u64 L.p] 175);replace kl:=ea kl ia;replace kt:=ea kt ia;replace aa:=ja aa ia;generalize w2.alloc _=w3 at kl kt kf aa |-;generalize w2.heap.size=gf at kf |-;clear ia cl;have cl:=kl.cell;have cf:=kf.cell;go_wp2_with fail
 refine (HPw.out R3 _ (by omega)).mono ?_
 rintro e w4 ⟨gp,rfl,-,kp,Aa⟩;rw [HPWE.out] at kp;replace kl:=ea kl Aa;replace kt:=ea kt Aa;replace kf:=ea kf Aa;replace aa:=ja aa Aa;clear Aa cl cf HPw;have cl:=kl.cell;go_upto_region 7 with fail
 have kg:=Blk.new w4 22 (Fa L.secret fun _=>0)
 have Ah:=(Below.refl w4.heap.size w4).alloc zR (.cells (Fa L.secret fun _=>0) 22)
 have ct:=(ea kt Ah).cell;clear cl mk;generalize w4.alloc _=w5 at kg Ah ct |-;have gRi:(R:Int) <= 16384:=by omega
 go_wp2_with fail
 clear ct;go_loopw [38] (fun y wr=>∃ i:Nat,i <= R /\ y= .int .i64 i /\ Blk wr w4.heap.size 22 (Fa L.secret (fR i)) /\ Below w4.heap.size w4 wr) (fun y _=>R-(intOf y).toNat)
 case atStart=>exact ⟨0,Nat.zero_le _,rfl,by rw [zW.out];exact kg,Ah⟩
 case round =>
  clear kg Ah;obtain ⟨i,hi,rfl,kg,hb⟩:=hrel;by_cases oa:i<R
  ·have q1:(i:Int)<(R:Int):=by omega
   have q2:(0:Int) <= (i:Int):=by omega
   have Mk:i<rows.length:=by have:=HRR.out;omega
   obtain ⟨b,q,rfl⟩:=za.base (by omega) (by omega)
   obtain ⟨cs,-,hc,x,y,z,rfl,Ec,Vd,Zb⟩:=za.get Mk;have gh:=ja aa hb;have Na:=World.block_lt_of_cell? _ _ ((hc 0 (by omega)).trans (show [x,y,z][0]?=some x from rfl))
   have h0:=(gh.cell (p:=⟨b,q+i*3+0,none⟩) Na).trans (hc 0 (by omega))
   have h1:=(gh.cell (p:=⟨b,q+i*3+1,none⟩) Na).trans (hc 1 (by omega))
   have h2:=(gh.cell (p:=⟨b,q+i*3+2,none⟩) Na).trans (hc 2 (by omega))
   rw [Nat.add_zero] at h0;simp only [List.getElem?_cons_zero,List.getElem?_cons_succ] at h0 h1 h2;have HRSi:=zH (Ns.out i Mk);have HVi:=zH (EW.out i Mk);have BC:=zH (HSS.out rows[i] i (fR i));obtain ⟨fS,hfS⟩:=zEX (tu L.p pu R ra rows[i] i (fR i));have DX:=zH (show fS 0=fR i by rw [hfS];rfl)
   rw [<- hfS] at HRSi BC;have CW:=zH (show ∀ k,k<3 -> RLin w [if k=0 then x else if k=1 then y else z] (Dd rows[i] k) from fun k hk=>by
    unfold Dd;rcases (show k=0 \/ k=1 \/ k=2 by omega) with h | h | h <;> subst h
    ·exact Ec
    ·exact Vd
    ·exact Zb)
   obtain ⟨sd,hsd⟩:=zEX (Dd rows[i]);rw [<- hsd] at HVi BC CW;obtain ⟨A1,n1,c1,rfl⟩:=RSl.slc Ec;obtain ⟨A2,n2,c2,rfl⟩:=RSl.slc Vd;obtain ⟨A3,n3,c3,rfl⟩:=RSl.slc Zb;have ia:=(Below.refl wr.heap.size wr).alloc zR (.cells #[.slice A1 n1 c1, .slice A2 n2 c2, .slice A3 n3 c3] 170);clear hc Ec Vd Zb hfS hsd gh;have Za:=World.block_lt_of_cell? _ _ h0;go_wp2_with fail
   go_loopw [50] (fun y wq=>∃ j:Nat,j <= 3 /\ y= .int .i64 j /\ Blk wq w4.heap.size 22 (Fa L.secret (fS j)) /\ Below w4.heap.size w4 wq) (fun y _=>3-(intOf y).toNat)
   case atStart=>exact ⟨0,by omega,rfl,by rw [DX.out];exact ea kg ia,ja hb ia⟩
   case round =>
    clear kg hb h0 h1 h2 ia Za;obtain ⟨j,hj,rfl,kg,hb⟩:=hrel;by_cases Vj:j<3
    ·have q3:(j:Int)<3:=by omega
     have q4:(0:Int) <= (j:Int):=by omega
     have qj:=CW.out j Vj;have ix:=fun w=>mE (w:=w) (x:=.slice A1 n1 c1) (y:=.slice A2 n2 c2) (z:=.slice A3 n3 c3) Vj
     obtain ⟨sel,Kd⟩:=zEX ((if j=0 then Value.slice A1 n1 c1 else if j=1 then .slice A2 n2 c2 else .slice A3 n3 c3))
     rw [<- Kd] at qj ix;have aA:=zH (BC.out j);have HVj:=zH (HVi.out j Vj);obtain ⟨ts,CV⟩:=zEX (sd j);rw [<- CV] at qj aA HVj;obtain ⟨jr,hjr⟩:=zEX (j*R);obtain ⟨m,hm⟩:=zEX (jr+i);rw [<- hjr,<- hm] at aA;have hjr2:jr <= 2*R:=by rw [hjr];exact Nat.mul_le_mul_right _ (by omega)
     have z1:(j:Int)*(R:Int)=(jr:Int):=by rw [hjr];exact (Int.natCast_mul _ _).symm
     have z2:=zd jr;have z3:(jr:Int)+(i:Int)=(m:Int):=by omega
     have z4:=zd m;have ir:m<R3:=by have:=ox.out;omega
     have z5:(m:Int)<(R3:Int):=by omega
     have z6:(0:Int) <= (m:Int):=by omega
     clear Kd CV hjr hm hjr2;obtain ⟨As,ns,Bc,rfl⟩:=RSl.slc qj;obtain ⟨A',n',c',he,Bf,Sc,kh,pj⟩:=qj;simp at he
     obtain ⟨rfl,rfl,rfl⟩:=he;have gns:=uj Sc kh;have Is:=zH Bf;obtain ⟨fT,WW⟩:=zEX (cy L.p pu (pw m) (fS j) ts);have HT0:=zH (show fT 0=fS j by rw [WW];rfl)
     have HTS:=zH (show ∀ t,fT (t+1)=YB L.p pu (pw m) (fT t) (ts.getD t (0,0)) from fun t=>by rw [WW];rfl)
     rw [<- WW] at aA;clear WW Bf Sc kh;go_wp2_with fail
     go_loopw [56] (fun y wq=>∃ t:Nat,t <= ns /\ y= .int .i64 t /\ Blk wq w4.heap.size 22 (Fa L.secret (fT t)) /\ Below w4.heap.size w4 wq) (fun y _=>ns-(intOf y).toNat)
     case atStart=>exact ⟨0,Nat.zero_le _,rfl,by rw [HT0.out];exact kg,hb⟩
     case round =>
      clear kg hb;obtain ⟨t,ht,rfl,kg,hb⟩:=hrel;by_cases Ql:t<ns
      ·have q5:(t:Int)<(ns:Int):=by omega
       have q6:(0:Int) <= (t:Int):=by omega
       have Wt:t<ts.length:=by rw [Is.out];exact Ql
       obtain ⟨b',q',rfl⟩:=pj.base (by omega) (by omega)
       have gh:=ja aa hb;obtain ⟨Ph,Pm⟩:=RLin.at_ (pj.below yw gh) Wt;have Rj:=World.block_lt_of_cell? _ _ Ph;simp only at Rj;have hv:=HVj.out t Wt;have vo:=zH (HTS.out t);revert Ph Pm hv vo
       generalize ts.getD t (0,0)=tm;obtain ⟨v,co⟩:=tm;intro Ph Pm hv vo;simp only at Ph Pm hv;obtain ⟨v1,mf⟩:=zEX (v-1);obtain ⟨v2,Js⟩:=zEX (v1-(pu:Int));have Vt:=R5.out;have y1:v-1=v1:=mf.symm;have y2:IntKind.i64.wrap v1=v1:=Jf _ (by omega) (by omega)
       have y3:v1-(pu:Int)=v2:=Js.symm;have y4:IntKind.i64.wrap v2=v2:=Jf _ (by omega) (by omega)
       have EX:=zH (show fT (t+1)=if 0 <= v2 then Pe (fT t) v2.toNat ((fT t v2.toNat+xg L.p (pw m*co%L.p))%L.p) else fT t by rw [vo.out,Js,mf];rfl)
       have Br:v2<(L.secret:Int):=by omega
       have fJ:=ea kt hb;have Zj:=ea kl hb;have ct:=fJ.cell;have cl:=Zj.cell;clear mf Js Vt hv vo;by_cases hz:0 <= v2
       ·have d1:decide ((0:Int) <= v2)=true:=decide_eq_true hz
        have d2:decide (v2<(L.secret:Int))=true:=decide_eq_true Br;obtain ⟨s,rfl⟩:=Int.eq_ofNat_of_zero_le hz;have RD:s<L.secret:=by omega
        obtain ⟨a,ha⟩:=zEX (fT t s);obtain ⟨px,CU⟩:=zEX (pw m);obtain ⟨u,hu⟩:=zEX (px*co%L.p);obtain ⟨r,hr⟩:=zEX ((a+xg L.p u)%L.p);have Xf:=zH (show (Fa L.secret (fT t)).setIfInBounds s (.int .u64 r)=Fa L.secret (fT (t+1)) by
         rw [Tm,EX.out,if_pos hz,Int.toNat_natCast,hr,hu,CU,ha])
        have ke:=zH (fun w=>by have:=HM.out px co w;rw [<- hu] at this;exact this)
        have Eg:=zH (fun w=>by have:=HS.out a u w;rw [<- hr] at this;exact this)
        have HA:=zH ha;have ia:=(Below.refl wr.heap.size wr).alloc zR (.cells #[.int .i64 v, .int .u64 co] 242);have kx:=Blk.new wr 242 #[.int .i64 v, .int .u64 co];have cpp:=(ea kp hb).cell m;have hpx2:=CU;rw [Fe _ ir] at cpp;clear hu hr ha;have lt1:=fJ.lt;have ll1:=Zj.lt;go_upto_region 18 with fail
        replace kg:=ea kg ia;replace hb:=ja hb ia;clear ct cl fJ Zj cpp ia lt1 ll1;generalize wr.alloc _=w6 at kg kx hb |-;generalize wr.heap.size=gx at kx |-;have kd:=ea kf hb;have kp1:=ea kp hb;have cf:=kd.cell;have lf:=kd.lt;have cpp:=kp1.cell m;rw [Fe _ ir] at cpp;have lp:=kp1.lt;have cx:=kx.cell;have lx:=kx.lt;have cg:=kg.cell s;rw [Fe _ RD,<- HA.out] at cg;have lg:=kg.lt;have rp:pw m=px:=hpx2.symm;rw [rp] at cpp;clear CU hpx2 rp;refine xd (Bb) (pa) [21] [21] [0,1,2,3,4,5,6,7,8,9,10,11,12,13,14,15,16,17,18,19,20,21] (by kernel_rfl) (by kernel_rfl) ?_
        refine yd (pa) ?_;intro Wc da;refine Qb ?_;refine Jb (pa) rfl rfl rfl rfl (fun _ _ _ h=>h) (fun _=>by go_simp <;> rfl) (fun w' hR=>ke.out _) ?_
        simp only [Act.put,zLa,zLb,zLc];refine Qb ?_;refine Jb (pa) rfl rfl rfl rfl (fun _ _ _ h=>h) (fun _=>by go_simp <;> rfl) (fun w' hR=>Eg.out _) ?_
        simp only [Act.put,zLa,zLb,zLc];refine Qb ?_;refine Hf rfl rfl rfl rfl ?_;intro wh xb;replace da:=(pa).trans _ _ _ da xb;have rb:=ja (Below.refl w6.heap.size w6).drew da;replace kg:=ea kg rb;replace hb:=ja hb rb;clear rb da xb cf lf cpp lp cx lx cg lg kd kp1;have c3:=kg.cell s;rw [Fe _ RD] at c3;have f3:=kg.frozen;go_simp;refine ⟨fun h=>Bool.noConfusion h,?_⟩
        have hg:=Pg (w:=wh) w4.heap.size s (.int .u64 r);replace kg:=kg.set_ s (.int .u64 r);rw [Xf.out] at kg;replace hb:=hb.trans (Nh hg hb.size zR);clear hg f3 c3;generalize wh.setCell _ _=we at kg hb |-;refine Uf rfl ?_;go_wp2_with fail
        go_roundw
        case rel=>exact ⟨t+1,by omega,by go_num,kg,hb⟩
        case measure=>simp [intOf];omega
       ·have d1:decide ((0:Int) <= v2)=false:=decide_eq_false hz
        have U5:=zH (show fT (t+1)=fT t by rw [EX.out,if_neg hz])
        have ia:=(Below.refl wr.heap.size wr).alloc zR (.cells #[.int .i64 v, .int .u64 co] 242);have lt1:=fJ.lt;have ll1:=Zj.lt;go_wp2_with fail
        replace kg:=ea kg ia;replace hb:=ja hb ia
        go_roundw
        case rel=>exact ⟨t+1,by omega,by go_num,by rw [U5.out];exact kg,hb⟩
        case measure=>simp [intOf];omega
      ·obtain rfl:t=ns:=by omega
       have q5:¬((t:Int)<(t:Int)):=by omega
       rw [<- Is.out,<- aA.out] at kg;go_wp2_with fail
       go_roundw
       case rel=>exact ⟨j+1,by omega,by go_num,kg,hb⟩
       case measure=>simp [intOf];omega
    ·obtain rfl:j=3:=by omega
     rw [<- HRSi.out] at kg;go_wp2_with fail
     go_roundw
     case rel=>exact ⟨i+1,by omega,by go_num,kg,hb⟩
     case measure=>simp [intOf];omega
  ·obtain rfl:i=R:=by omega
   have q1:¬((i:Int)<(i:Int)):=by omega
   have hS:=Gv kg (fun k _=>Nat.lt_trans (eY.out i (by rw [<- HRR.out];omega) k) HP2.out) (by simp [maxLen];omega)
   have hP:=Gv (ea kp hb) (fun k _=>oR.out k) (by simp [maxLen];omega)
   obtain ⟨PL,hPL⟩:=zEX ((List.range R3).map pw);rw [<- hPL] at hP zk ql Ug;have Zj:=ea kl hb;have cl:=Zj.cell;have ll:=Zj.lt;have x1:i <= R3:=by have:=ox.out;omega
   have x2:R2 <= R3:=by have:=ox.out;have:=Xz.out;omega
   have x3:i <= R2:=by have:=Xz.out;omega
   have x4:(i:Int) <= (R3:Int):=by omega
   have x5:(R2:Int) <= (R3:Int):=by omega
   have x6:(i:Int) <= (R2:Int):=by omega
   have x7:(0:Int) <= (i:Int):=by omega
   have x8:(0:Int) <= (R2:Int):=by omega
   have h1:=RB hP x1;have h2:=Jz (RB hP x2) x3;have h3:=Jz hP x2;rw [zk.out] at h1;rw [ql.out] at h2;rw [Ug.out] at h3;have HQ4:=zH (show ∀ k,k<4 -> xe L.a L.b L.b L.b k=((xe ((List.range L.secret).map (fR i)) (Sf L.p i ra 0) (Sf L.p i ra 1) (Sf L.p i ra 2) k).length+L.block-1) / L.block from fun k hk=>by
    rcases (show k=0 \/ k=1 \/ k=2 \/ k=3 by omega) with rfl | rfl | rfl | rfl
    ·show L.a=(((List.range L.secret).map (fR i)).length+L.block-1) / L.block
     rw [List.length_map,List.length_range];exact HAE.out
    ·show L.b=((Sf L.p i ra 0).length+L.block-1) / L.block
     rw [Sf,List.length_map,List.length_range];exact HBE.out
    ·show L.b=((Sf L.p i ra 1).length+L.block-1) / L.block
     rw [Sf,List.length_map,List.length_range];exact HBE.out
    ·show L.b=((Sf L.p i ra 2).length+L.block-1) / L.block
     rw [Sf,List.length_map,List.length_range];exact HBE.out)
   clear hPL hP kg zk ql Ug Zj;go_upto_region 22 with fail
   generalize (some (⟨gp,0,none⟩:Addr))=PA at h1 h2 h3 |-;generalize (some (⟨w4.heap.size,0,none⟩:Addr))=SA at hS |-;refine Pc (Bb) [15] [0,1,2,3,4,5,6,7,8,9,10,11,12,13,14,15,16] (by kernel_rfl) (by kernel_rfl) ?_
   refine di (pa) ?_;intro Wc Ba da;have Ja:=Sg Ba;replace hS:=ib Ja hS;replace h1:=ib Ja h1;replace h2:=ib Ja h2;replace h3:=ib Ja h3;rcases Nat.eq_zero_or_pos i with YV | YV
   ·have hr30:R3=0:=by have:=ox.out;omega
    have hr20:R2=0:=by have:=Xz.out;omega
    subst hr30 hr20 YV;have w0:IntKind.i64.wrap 0=0:=by decide
    rw [if_pos rfl] at h2 h3;have hv:=zH (mK hS h1 h2 h3);refine Kb ?_;refine oc (pa) rfl rfl rfl (fun _=>by go_simp <;> rfl) ((HC.out _ _ _ _ _ _ _ _ _ hv.out HQ4.out).mono ?_)
    rintro e w7 ⟨v,rfl,hv7,Aa⟩;refine ⟨_,rfl,Aa,?_⟩;replace da:=(pa).trans _ _ _ da (Aa);simp only [Act.put,zLa,zLb,zLc];refine Kb ?_;refine pc ?_;go_wp2;go_ret
    exact ⟨v,rfl,hv7.mono (ja (ja aa hb) Ja).size,ja (ja (ja aa hb) Ja) Aa⟩
   ·have bB:¬R3=i:=by have:=ox.out;omega
    have hne2:¬R3=R2:=by have:=ox.out;have:=Xz.out;omega
    rw [if_neg bB] at h2;rw [if_neg hne2] at h3;have hv:=zH (mK hS h1 h2 h3);refine Kb ?_;refine oc (pa) rfl rfl rfl (fun _=>by go_simp <;> rfl) ((HC.out _ _ _ _ _ _ _ _ _ hv.out HQ4.out).mono ?_)
    rintro e w7 ⟨v,rfl,hv7,Aa⟩;refine ⟨_,rfl,Aa,?_⟩;replace da:=(pa).trans _ _ _ da (Aa);simp only [Act.put,zLa,zLb,zLc];refine Kb ?_;refine pc ?_;go_wp2;go_ret
    exact ⟨v,rfl,hv7.mono (ja (ja aa hb) Ja).size,ja (ja (ja aa hb) Ja) Aa⟩
end Go.Proofs.YtjipleoamlmkfaaGreat
