/- A part of the proof. No condition. -/
import Derived.Test.YtakjnmojigechaaGreatProg
import Derived.Test.YtakjnmojigechaaGreatJB22

namespace Go.Proofs.YtakjnmojigechaaGreat
open Go.RowKit
set_option maxRecDepth 100000 in
set_option maxHeartbeats 6000000 in
theorem xh (L:ZO) (pu rho:Nat) (vars:Int) (A:Option Addr) (R c:Nat) (rows:List Ya) (w:World) (hL:ZU L) (hF:Xm L pu vars rows) (hr:RSl 3 Xb w [.slice A R c] rows) (hV:VE vars rows) :
  Calls Tryz.prog 52 #[.agg (Zz L),Yr L.p (pu:Int) vars (.slice A R c), .int .u64 (rho:Int)] w fun e w'=>∃ v,e= .returned v∧RRx w.heap.size w' v (Kl L pu rho rows)∧Below w.heap.size w w':=by
 obtain ⟨A',n',c',he,hln,hnc,hcx,hrd⟩:=hr
 simp at he
 obtain ⟨rfl,rfl,rfl⟩:=he
 have hb1:=hL.b1
 have hs:=hL.s
 have hrr:=hL.r
 have hnr:=hF.nr
 have hsec:=hF.sec
 have hsm:=hF.small
 have hR:R=rows.length:=hln.symm
 have hLR:L.rows=R:=by omega
 have HBe:=Lib.hid (fun w=>z7 L pu vars A R c rows w hL hF hln)
 have HPw:=Lib.hid (fun n w hn=>Kx L.p rho n w hL.p hn)
 have HM:=Lib.hid (fun a b w=>XI L.p a b w hL.p)
 have HS:=Lib.hid (fun a b w=>Kz L.p a b w hL.p)
 have HC:=Lib.hid (fun v0 v1 v2 v3 l0 l1 l2 l3 w hv hq=>zIh L v0 v1 v2 v3 l0 l1 l2 l3 w hL hv hq)
 have HAE:=Lib.hid hL.ae
 have HBE:=Lib.hid (show L.b=(R+L.block-1) / L.block by rw [←hLR];exact hL.be)
 obtain ⟨pw,hpw⟩:∃ pw:Nat→Nat,pw=fun i=>rho^i%L.p:=⟨_,rfl⟩
 have HPWE:=Lib.hid (show (fun i=>rho^i%L.p)=pw from hpw.symm)
 have HPX:=Lib.hid (show ∀ i,pw i<18446744073709551616 from fun i=>by rw [hpw];exact Nat.lt_trans (Nat.mod_lt _ (by have:=Zr hL.p;omega)) (Zr hL.p).2)
 obtain ⟨fR,hfR⟩:∃ fR,fR=zDh L.p pu rows.length rho rows:=⟨_,rfl⟩
 have HR0:=Lib.hid (show fR 0=fun _=>0 by rw [hfR];rfl)
 have HRS:=Lib.hid (show ∀ i (hi:i<rows.length),fR (i+1)=jk L.p pu R rho rows[i] i (fR i) 3 from fun i hi=>by
  rw [hfR,hR]
  show jk L.p pu rows.length rho (rows.getD i ⟨[],[],[]⟩) i _ 3=_
  rw [List.getD_eq_getElem?_getD,List.getElem?_eq_getElem hi]
  rfl)
 have HSS:=Lib.hid (show ∀ (r:Ya) i (f:Nat→Nat) j,jk L.p pu R rho r i f (j+1)=Kq L.p pu (pw (j*R+i)) (jk L.p pu R rho r i f j) (YA r j) (YA r j).length from fun r i f j=>by rw [hpw];rfl)
 have HFX0:=Lib.hid (show ∀ (x:Nat) (f:Nat→Nat) ts t,(∀ k,f k<L.p)→∀ k,Kq L.p pu x f ts t k<L.p from fun x f ts t hf=>by
  induction t with
  | zero=>exact hf
  | succ t ih =>
   intro k
   show JT L.p pu x (Kq L.p pu x f ts t) _ k<_
   unfold JT
   split
   ·unfold VB
    split
    ·exact Nat.mod_lt _ (by have:=Zr hL.p;omega)
    ·exact ih k
   ·exact ih k)
 have HFX:=Lib.hid (show ∀ i,i≤rows.length→∀ k,fR i k<L.p from fun i=>by
  induction i with
  | zero=>intro _ k;rw [HR0.out];have:=Zr hL.p;show 0<_;omega
  | succ i ih =>
   intro hi
   rw [HRS.out i (by omega)]
   have h0:=ih (by omega)
   have h1:∀ j k,jk L.p pu R rho rows[i] i (fR i) j k<L.p:=fun j=>by
    induction j with
    | zero=>exact h0
    | succ j jh=>exact HFX0.out _ _ _ _ jh
   exact h1 3)
 have hp2:=(Zr hL.p).2
 have HP2:=Lib.hid hp2
 have HCP:=Lib.hid (show Kl L pu rho rows=Ga L.block (Yg ((List.range L.secret).map (fR R)) (pwL L.p R rho 0) (pwL L.p R rho 1) (pwL L.p R rho 2)) (Yg L.a L.b L.b L.b) by rw [hfR,hR];rfl)
 have HL0:=Lib.hid (show ((List.range (3*R)).map pw).take R=pwL L.p R rho 0 by
  rw [←List.map_take,List.take_range,Nat.min_eq_left (by omega),hpw]
  unfold pwL
  refine List.map_congr_left fun i _=>?_
  simp)
 have HL1:=Lib.hid (show (((List.range (3*R)).map pw).take (2*R)).drop R=pwL L.p R rho 1 by
  refine VY (by simp [pwL];omega) fun i hi=>?_
  simp at hi
  unfold pwL
  rw [Yp,if_pos (by omega),List.getD_eq_getElem?_getD,List.getElem?_drop,List.getElem?_take,if_pos (by omega),List.getElem?_map,List.getElem?_range (by omega)]
  rw [hpw]
  simp)
 have HL2:=Lib.hid (show ((List.range (3*R)).map pw).drop (2*R)=pwL L.p R rho 2 by
  refine VY (by simp [pwL];omega) fun i hi=>?_
  simp at hi
  unfold pwL
  rw [Yp,if_pos (by omega),List.getD_eq_getElem?_getD,List.getElem?_drop,List.getElem?_map,List.getElem?_range (by omega)]
  rw [hpw]
  simp)
 have HVa:=Lib.hid (show ∀ i (hi:i<rows.length) k,k<3→∀ t (ht:t<(YA rows[i] k).length),0≤((YA rows[i] k).getD t (0,0)).1∧((YA rows[i] k).getD t (0,0)).1<vars from fun i hi k hk t ht=>by
  rw [List.getD_eq_getElem?_getD,List.getElem?_eq_getElem ht]
  exact hV _ (List.getElem_mem hi) k hk _ (List.getElem_mem ht))
 obtain ⟨R3,hR3⟩:∃ R3,R3=3*R:=⟨_,rfl⟩
 obtain ⟨R2,hR2⟩:∃ R2,R2=2*R:=⟨_,rfl⟩
 have e1:(3:Int)*(R:Int)=(R3:Int):=by omega
 have e2:IntKind.i64.wrap (R3:Int)=(R3:Int):=ZD _ (by omega) (by omega)
 have e3:(2:Int)*(R:Int)=(R2:Int):=by omega
 have e4:IntKind.i64.wrap (R2:Int)=(R2:Int):=ZD _ (by omega) (by omega)
 have mk:=YS L.secret (by omega)
 have gs:(L.secret:Int)≤65536:=by omega
 have gs0:(0:Int)≤(L.secret:Int):=by omega
 have gR:R≤16384:=by omega
 have gR3:R3≤65536:=by omega
 rw [←hR3] at HL0 HL1 HL2
 rw [←hR2] at HL1 HL2
 rw [HCP.out]
 have HR3':=Lib.hid hR3
 have HR2':=Lib.hid hR2
 have HRR:=Lib.hid hR
 have HSEC:=Lib.hid (And.intro hsec hsm)
 clear hV hpw hfR hL hF hb1 hs hrr hnr hsec hsm hR3 hR2 hp2 HCP HFX0 hnc hcx hln hR
 unfold Zz Yr fv at *
 rw [hLR] at HBe HC ⊢
 clear hLR
 obtain ⟨kl,kt,hb0,-⟩:=YB w 55 25 #[.int .u64 (L.p:Int), .int .i64 (L.block:Int), .int .i64 (L.queries:Int), .int .i64 (L.k:Int), .int .i64 (L.n:Int), .int .i64 (L.secret:Int), .int .i64 (R:Int), .int .i64 (L.a:Int), .int .i64 (L.b:Int), .int .i64 (L.b:Int), .int .i64 (L.b:Int)] #[.int .u64 (L.p:Int), .int .i64 (pu:Int), .int .i64 vars, .slice A R c]
 go_enter Tryz.func52,Tryz.ntmps52
 go_upto_region 1 with fail
 generalize (w.alloc _).alloc _=w1 at kl kt hb0 ⊢
 have cl:=kl.cell
 have ct:=kt.cell
 go_wp2_with fail
 refine (HBe.out _).mono ?_
 rintro e w2 ⟨rfl,hbx⟩
 replace kl:=kl.below hbx kl.lt
 replace kt:=kt.below hbx kt.lt
 replace hb0:=Za hb0 hbx
 clear hbx cl ct HBe
 have cl:=kl.cell
 go_upto_region 4 with fail
 have kf:=Blk.new w2 96 #[.int .u64 (L.p:Int)]
 have hal:=(Below.refl w2.heap.size w2).alloc (Nat.le_refl _) (.cells #[.int .u64 (L.p:Int)] 96)
 replace kl:=kl.below hal kl.lt
 replace kt:=kt.below hal kt.lt
 replace hb0:=Za hb0 hal
 generalize w2.alloc _=w3 at kl kt kf hb0 ⊢
 generalize w2.heap.size=gf at kf ⊢
 clear hal cl
 have cl:=kl.cell
 have cf:=kf.cell
 go_wp2_with fail
 refine (HPw.out R3 _ (by omega)).mono ?_
 rintro e w4 ⟨gp,rfl,-,kp,hbx⟩
 rw [HPWE.out] at kp
 replace kl:=kl.below hbx kl.lt
 replace kt:=kt.below hbx kt.lt
 replace kf:=kf.below hbx kf.lt
 replace hb0:=Za hb0 hbx
 clear hbx cl cf HPw
 have cl:=kl.cell
 go_upto_region 7 with fail
 have kg:=Blk.new w4 22 (Zm L.secret fun _=>0)
 have hbs:=(Below.refl w4.heap.size w4).alloc (Nat.le_refl _) (.cells (Zm L.secret fun _=>0) 22)
 have ct:=(kt.below hbs kt.lt).cell
 clear cl mk
 generalize w4.alloc _=w5 at kg hbs ct ⊢
 have gRi:(R:Int)≤16384:=by omega
 go_wp2_with fail
 clear ct
 go_loopw [38] (fun y wr=>∃ i:Nat,i≤R∧y= .int .i64 (i:Int)∧Blk wr w4.heap.size 22 (Zm L.secret (fR i))∧Below w4.heap.size w4 wr) (fun y _=>R-(intOf y).toNat)
 case atStart=>exact ⟨0,Nat.zero_le _,rfl,by rw [HR0.out];exact kg,hbs⟩
 case round =>
  clear kg hbs
  obtain ⟨i,hi,rfl,kg,hb⟩:=hrel
  by_cases hlt:i<R
  ·have q1:(i:Int)<(R:Int):=by omega
   have q2:(0:Int)≤(i:Int):=by omega
   have hli:i<rows.length:=by have:=HRR.out;omega
   obtain ⟨b,q,rfl⟩:=hrd.base (by omega) (by omega)
   obtain ⟨cs,-,hc,x,y,z,rfl,hx1,hy1,hz1⟩:=hrd.get hli
   have hbo:=Za hb0 hb
   have hbw:=World.block_lt_of_cell? _ _ ((hc 0 (by omega)).trans (show [x,y,z][0]?=some x from rfl))
   have h0:=(hbo.cell (p:=⟨b,q+i*3+0,none⟩) hbw).trans (hc 0 (by omega))
   have h1:=(hbo.cell (p:=⟨b,q+i*3+1,none⟩) hbw).trans (hc 1 (by omega))
   have h2:=(hbo.cell (p:=⟨b,q+i*3+2,none⟩) hbw).trans (hc 2 (by omega))
   rw [Nat.add_zero] at h0
   simp only [List.getElem?_cons_zero,List.getElem?_cons_succ] at h0 h1 h2
   have HRSi:=Lib.hid (HRS.out i hli)
   have HVi:=Lib.hid (HVa.out i hli)
   have HSSi:=Lib.hid (HSS.out rows[i] i (fR i))
   obtain ⟨fS,hfS⟩:∃ fS,fS=jk L.p pu R rho rows[i] i (fR i):=⟨_,rfl⟩
   have HS0:=Lib.hid (show fS 0=fR i by rw [hfS];rfl)
   rw [←hfS] at HRSi HSSi
   have HSd:=Lib.hid (show ∀ k,k<3→RLin w [if k=0 then x else if k=1 then y else z] (YA rows[i] k) from fun k hk=>by
    unfold YA
    rcases (show k=0∨k=1∨k=2 by omega) with h | h | h <;> subst h
    ·exact hx1
    ·exact hy1
    ·exact hz1)
   obtain ⟨sd,hsd⟩:∃ sd,sd=YA rows[i]:=⟨_,rfl⟩
   rw [←hsd] at HVi HSSi HSd
   obtain ⟨A1,n1,c1,rfl⟩:=RSl.slc hx1
   obtain ⟨A2,n2,c2,rfl⟩:=RSl.slc hy1
   obtain ⟨A3,n3,c3,rfl⟩:=RSl.slc hz1
   have hal:=(Below.refl wr.heap.size wr).alloc (Nat.le_refl _) (.cells #[.slice A1 n1 c1, .slice A2 n2 c2, .slice A3 n3 c3] 132)
   clear hc hx1 hy1 hz1 hfS hsd hbo
   have hbl:=World.block_lt_of_cell? _ _ h0
   go_wp2_with fail
   go_loopw [50] (fun y wq=>∃ j:Nat,j≤3∧y= .int .i64 (j:Int)∧Blk wq w4.heap.size 22 (Zm L.secret (fS j))∧Below w4.heap.size w4 wq) (fun y _=>3-(intOf y).toNat)
   case atStart=>exact ⟨0,by omega,rfl,by rw [HS0.out];exact kg.below hal kg.lt,Za hb hal⟩
   case round =>
    clear kg hb h0 h1 h2 hal hbl
    obtain ⟨j,hj,rfl,kg,hb⟩:=hrel
    by_cases hj3:j<3
    ·have q3:(j:Int)<3:=by omega
     have q4:(0:Int)≤(j:Int):=by omega
     have hsr:=HSd.out j hj3
     have ix:=fun w=>ze (w:=w) (x:=.slice A1 n1 c1) (y:=.slice A2 n2 c2) (z:=.slice A3 n3 c3) hj3
     obtain ⟨sel,hsel⟩:∃ sel,sel=(if j=0 then Value.slice A1 n1 c1 else if j=1 then .slice A2 n2 c2 else .slice A3 n3 c3):=⟨_,rfl⟩
     rw [←hsel] at hsr ix
     have HSSj:=Lib.hid (HSSi.out j)
     have HVj:=Lib.hid (HVi.out j hj3)
     obtain ⟨ts,hts⟩:∃ ts,ts=sd j:=⟨_,rfl⟩
     rw [←hts] at hsr HSSj HVj
     obtain ⟨jr,hjr⟩:∃ jr,jr=j*R:=⟨_,rfl⟩
     obtain ⟨m,hm⟩:∃ m,m=jr+i:=⟨_,rfl⟩
     rw [←hjr,←hm] at HSSj
     have hjr2:jr≤2*R:=by rw [hjr];exact Nat.mul_le_mul_right _ (by omega)
     have z1:(j:Int)*(R:Int)=(jr:Int):=by rw [hjr];exact (Int.natCast_mul _ _).symm
     have z2:IntKind.i64.wrap (jr:Int)=(jr:Int):=ZD _ (by omega) (by omega)
     have z3:(jr:Int)+(i:Int)=(m:Int):=by omega
     have z4:IntKind.i64.wrap (m:Int)=(m:Int):=ZD _ (by omega) (by omega)
     have hm3:m<R3:=by have:=HR3'.out;omega
     have z5:(m:Int)<(R3:Int):=by omega
     have z6:(0:Int)≤(m:Int):=by omega
     clear hsel hts hjr hm hjr2
     obtain ⟨As,ns,cs1,rfl⟩:=RSl.slc hsr
     obtain ⟨A',n',c',he,hln,hnc,hcx,hrt⟩:=hsr
     simp at he
     obtain ⟨rfl,rfl,rfl⟩:=he
     have gns:=YR hnc hcx
     have HNS:=Lib.hid hln
     obtain ⟨fT,hfT⟩:∃ fT,fT=Kq L.p pu (pw m) (fS j) ts:=⟨_,rfl⟩
     have HT0:=Lib.hid (show fT 0=fS j by rw [hfT];rfl)
     have HTS:=Lib.hid (show ∀ t,fT (t+1)=JT L.p pu (pw m) (fT t) (ts.getD t (0,0)) from fun t=>by rw [hfT];rfl)
     rw [←hfT] at HSSj
     clear hfT hln hnc hcx
     go_wp2_with fail
     go_loopw [56] (fun y wq=>∃ t:Nat,t≤ns∧y= .int .i64 (t:Int)∧Blk wq w4.heap.size 22 (Zm L.secret (fT t))∧Below w4.heap.size w4 wq) (fun y _=>ns-(intOf y).toNat)
     case atStart=>exact ⟨0,Nat.zero_le _,rfl,by rw [HT0.out];exact kg,hb⟩
     case round =>
      clear kg hb
      obtain ⟨t,ht,rfl,kg,hb⟩:=hrel
      by_cases htn:t<ns
      ·have q5:(t:Int)<(ns:Int):=by omega
       have q6:(0:Int)≤(t:Int):=by omega
       have htl:t<ts.length:=by rw [HNS.out];exact htn
       obtain ⟨b',q',rfl⟩:=hrt.base (by omega) (by omega)
       have hbo:=Za hb0 hb
       obtain ⟨c1',c2'⟩:=RLin.at_ (hrt.below VO hbo) htl
       have hbl':=World.block_lt_of_cell? _ _ c1'
       simp only at hbl'
       have hv:=HVj.out t htl
       have HTt:=Lib.hid (HTS.out t)
       revert c1' c2' hv HTt
       generalize ts.getD t (0,0)=tm
       obtain ⟨v,co⟩:=tm
       intro c1' c2' hv HTt
       simp only at c1' c2' hv
       obtain ⟨v1,hv1⟩:∃ v1,v1=v-1:=⟨_,rfl⟩
       obtain ⟨v2,hv2⟩:∃ v2,v2=v1-(pu:Int):=⟨_,rfl⟩
       have hsec:=HSEC.out
       have y1:v-1=v1:=hv1.symm
       have y2:IntKind.i64.wrap v1=v1:=ZD _ (by omega) (by omega)
       have y3:v1-(pu:Int)=v2:=hv2.symm
       have y4:IntKind.i64.wrap v2=v2:=ZD _ (by omega) (by omega)
       have HTF:=Lib.hid (show fT (t+1)=if 0≤v2 then VB (fT t) v2.toNat ((fT t v2.toNat+Y1 L.p (pw m*co%L.p))%L.p) else fT t by rw [HTt.out,hv2,hv1];rfl)
       have hv3:v2<(L.secret:Int):=by omega
       have kt1:=kt.below hb kt.lt
       have kl1:=kl.below hb kl.lt
       have ct:=kt1.cell
       have cl:=kl1.cell
       clear hv1 hv2 hsec hv HTt
       by_cases hz:0≤v2
       ·have d1:decide ((0:Int)≤v2)=true:=decide_eq_true hz
        have d2:decide (v2<(L.secret:Int))=true:=decide_eq_true hv3
        obtain ⟨s,rfl⟩:=Int.eq_ofNat_of_zero_le hz
        have hsl:s<L.secret:=by omega
        obtain ⟨a,ha⟩:∃ a,a=fT t s:=⟨_,rfl⟩
        obtain ⟨px,hpx⟩:∃ px,px=pw m:=⟨_,rfl⟩
        obtain ⟨u,hu⟩:∃ u,u=px*co%L.p:=⟨_,rfl⟩
        obtain ⟨r,hr⟩:∃ r,r=(a+Y1 L.p u)%L.p:=⟨_,rfl⟩
        have HST:=Lib.hid (show (Zm L.secret (fT t)).setIfInBounds s (.int .u64 (r:Int))=Zm L.secret (fT (t+1)) by
         rw [Y3,HTF.out,if_pos hz,Int.toNat_natCast,hr,hu,hpx,ha])
        have HM1:=Lib.hid (fun w=>by have:=HM.out px co w;rw [←hu] at this;exact this)
        have HS1:=Lib.hid (fun w=>by have:=HS.out a u w;rw [←hr] at this;exact this)
        have HA:=Lib.hid ha
        have hal:=(Below.refl wr.heap.size wr).alloc (Nat.le_refl _) (.cells #[.int .i64 v, .int .u64 (co:Int)] 128)
        have kx:=Blk.new wr 128 #[.int .i64 v, .int .u64 (co:Int)]
        have cpp:=(kp.below hb kp.lt).cell m
        have hpx2:=hpx
        rw [Z4 _ hm3] at cpp
        clear hu hr ha
        have lt1:=kt1.lt
        have ll1:=kl1.lt
        go_upto_region 18 with fail
        replace kg:=kg.below hal kg.lt
        replace hb:=Za hb hal
        clear ct cl kt1 kl1 cpp hal lt1 ll1
        generalize wr.alloc _=w6 at kg kx hb ⊢
        generalize wr.heap.size=gx at kx ⊢
        have kf1:=kf.below hb kf.lt
        have kp1:=kp.below hb kp.lt
        have cf:=kf1.cell
        have lf:=kf1.lt
        have cpp:=kp1.cell m
        rw [Z4 _ hm3] at cpp
        have lp:=kp1.lt
        have cx:=kx.cell
        have lx:=kx.lt
        have cg:=kg.cell s
        rw [Z4 _ hsl,←HA.out] at cg
        have lg:=kg.lt
        have hpw:pw m=px:=hpx2.symm
        rw [hpw] at cpp
        clear hpx hpx2 hpw
        refine ZF (ZK) (later_moves) [21] [21] [0,1,2,3,4,5,6,7,8,9,10,11,12,13,14,15,16,17,18,19,20,21] (by kernel_rfl) (by kernel_rfl) ?_
        refine ZG (later_moves) ?_
        intro Wc hacc
        repeat (first | (refine Zl (later_moves) rfl rfl rfl rfl (fun _ _ _ h=>h) ?_;simp only [Act.put,zLa,zLb,zLc]) | (refine Zi (v:=?_) (later_moves) rfl rfl rfl rfl (fun _ _ _ h=>h) ?_ ?_;rotate_left;(· (intro w' hR;(first | have hcells:=Zb ((later_moves).trans _ _ _ hacc hR) | skip);go_simp;try with_reducible rfl));simp only [Act.put,zLa,zLb,zLc]) | (refine Zu (v:=?_) rfl rfl rfl rfl (fun _ _ _ h=>h) ?_ ?_;rotate_left;(· (intro w';go_simp;try with_reducible rfl));simp only [Act.put,zLa,zLb,zLc]))
        refine Zs (later_moves) rfl rfl rfl rfl (fun _ _ _ h=>h) (fun _=>by go_simp <;> rfl) (fun w' hR=>HM1.out _) ?_
        simp only [Act.put,zLa,zLb,zLc]
        repeat (first | (refine Zl (later_moves) rfl rfl rfl rfl (fun _ _ _ h=>h) ?_;simp only [Act.put,zLa,zLb,zLc]) | (refine Zi (v:=?_) (later_moves) rfl rfl rfl rfl (fun _ _ _ h=>h) ?_ ?_;rotate_left;(· (intro w' hR;(first | have hcells:=Zb ((later_moves).trans _ _ _ hacc hR) | skip);go_simp;try with_reducible rfl));simp only [Act.put,zLa,zLb,zLc]) | (refine Zu (v:=?_) rfl rfl rfl rfl (fun _ _ _ h=>h) ?_ ?_;rotate_left;(· (intro w';go_simp;try with_reducible rfl));simp only [Act.put,zLa,zLb,zLc]))
        refine Zs (later_moves) rfl rfl rfl rfl (fun _ _ _ h=>h) (fun _=>by go_simp <;> rfl) (fun w' hR=>HS1.out _) ?_
        simp only [Act.put,zLa,zLb,zLc]
        repeat (first | (refine Zl (later_moves) rfl rfl rfl rfl (fun _ _ _ h=>h) ?_;simp only [Act.put,zLa,zLb,zLc]) | (refine Zi (v:=?_) (later_moves) rfl rfl rfl rfl (fun _ _ _ h=>h) ?_ ?_;rotate_left;(· (intro w' hR;(first | have hcells:=Zb ((later_moves).trans _ _ _ hacc hR) | skip);go_simp;try with_reducible rfl));simp only [Act.put,zLa,zLb,zLc]) | (refine Zu (v:=?_) rfl rfl rfl rfl (fun _ _ _ h=>h) ?_ ?_;rotate_left;(· (intro w';go_simp;try with_reducible rfl));simp only [Act.put,zLa,zLb,zLc]))
        refine Z7 rfl rfl rfl rfl ?_
        intro wh hRh
        replace hacc:=(later_moves).trans _ _ _ hacc hRh
        have hxd:=Za (Below.refl w6.heap.size w6).drew hacc
        replace kg:=kg.below hxd kg.lt
        replace hb:=Za hb hxd
        clear hxd hacc hRh cf lf cpp lp cx lx cg lg kf1 kp1
        have c3:=kg.cell s
        rw [Z4 _ hsl] at c3
        have f3:=kg.frozen
        go_simp
        refine ⟨fun h=>Bool.noConfusion h,?_⟩
        have hg:=Yl (w:=wh) w4.heap.size s (.int .u64 (r:Int))
        replace kg:=kg.set_ s (.int .u64 (r:Int))
        rw [HST.out] at kg
        replace hb:=hb.trans (Zg hg hb.size (Nat.le_refl _))
        clear hg f3 c3
        generalize wh.setCell _ _=we at kg hb ⊢
        refine Z8 rfl ?_
        go_wp2_with fail
        go_roundw
        case rel=>exact ⟨t+1,by omega,by go_num,kg,hb⟩
        case measure=>simp [intOf];omega
       ·have d1:decide ((0:Int)≤v2)=false:=decide_eq_false hz
        have HTF2:=Lib.hid (show fT (t+1)=fT t by rw [HTF.out,if_neg hz])
        have hal:=(Below.refl wr.heap.size wr).alloc (Nat.le_refl _) (.cells #[.int .i64 v, .int .u64 (co:Int)] 128)
        have lt1:=kt1.lt
        have ll1:=kl1.lt
        go_wp2_with fail
        replace kg:=kg.below hal kg.lt
        replace hb:=Za hb hal
        go_roundw
        case rel=>exact ⟨t+1,by omega,by go_num,by rw [HTF2.out];exact kg,hb⟩
        case measure=>simp [intOf];omega
      ·obtain rfl:t=ns:=by omega
       have q5:¬((t:Int)<(t:Int)):=by omega
       rw [←HNS.out,←HSSj.out] at kg
       go_wp2_with fail
       go_roundw
       case rel=>exact ⟨j+1,by omega,by go_num,kg,hb⟩
       case measure=>simp [intOf];omega
    ·obtain rfl:j=3:=by omega
     rw [←HRSi.out] at kg
     go_wp2_with fail
     go_roundw
     case rel=>exact ⟨i+1,by omega,by go_num,kg,hb⟩
     case measure=>simp [intOf];omega
  ·obtain rfl:i=R:=by omega
   have q1:¬((i:Int)<(i:Int)):=by omega
   have hS:=XR kg (fun k _=>Nat.lt_trans (HFX.out i (by rw [←HRR.out];omega) k) HP2.out) (by simp [maxLen];omega)
   have hP:=XR (kp.below hb kp.lt) (fun k _=>HPX.out k) (by simp [maxLen];omega)
   obtain ⟨PL,hPL⟩:∃ PL,PL=(List.range R3).map pw:=⟨_,rfl⟩
   rw [←hPL] at hP HL0 HL1 HL2
   have kl1:=kl.below hb kl.lt
   have cl:=kl1.cell
   have ll:=kl1.lt
   have x1:i≤R3:=by have:=HR3'.out;omega
   have x2:R2≤R3:=by have:=HR3'.out;have:=HR2'.out;omega
   have x3:i≤R2:=by have:=HR2'.out;omega
   have x4:(i:Int)≤(R3:Int):=by omega
   have x5:(R2:Int)≤(R3:Int):=by omega
   have x6:(i:Int)≤(R2:Int):=by omega
   have x7:(0:Int)≤(i:Int):=by omega
   have x8:(0:Int)≤(R2:Int):=by omega
   have h1:=UM hP x1
   have h2:=Jp (UM hP x2) x3
   have h3:=Jp hP x2
   rw [HL0.out] at h1
   rw [HL1.out] at h2
   rw [HL2.out] at h3
   have HQ4:=Lib.hid (show ∀ k,k<4→Yg L.a L.b L.b L.b k=((Yg ((List.range L.secret).map (fR i)) (pwL L.p i rho 0) (pwL L.p i rho 1) (pwL L.p i rho 2) k).length+L.block-1) / L.block from fun k hk=>by
    rcases (show k=0∨k=1∨k=2∨k=3 by omega) with rfl | rfl | rfl | rfl
    ·show L.a=(((List.range L.secret).map (fR i)).length+L.block-1) / L.block
     rw [List.length_map,List.length_range]
     exact HAE.out
    ·show L.b=((pwL L.p i rho 0).length+L.block-1) / L.block
     rw [pwL,List.length_map,List.length_range]
     exact HBE.out
    ·show L.b=((pwL L.p i rho 1).length+L.block-1) / L.block
     rw [pwL,List.length_map,List.length_range]
     exact HBE.out
    ·show L.b=((pwL L.p i rho 2).length+L.block-1) / L.block
     rw [pwL,List.length_map,List.length_range]
     exact HBE.out)
   clear hPL hP kg HL0 HL1 HL2 kl1
   go_upto_region 22 with fail
   generalize (some (⟨gp,0,none⟩:Addr))=PA at h1 h2 h3 ⊢
   generalize (some (⟨w4.heap.size,0,none⟩:Addr))=SA at hS ⊢
   refine Zq (ZK) [15] [0,1,2,3,4,5,6,7,8,9,10,11,12,13,14,15,16] (by kernel_rfl) (by kernel_rfl) ?_
   refine Zp (later_moves) ?_
   intro Wc HWc hacc
   have hbW:Below wr.heap.size wr Wc:=by rw [HWc.out];exact (Below.refl _ _).drew
   replace hS:=Zc _ _ _ _ hbW hS
   replace h1:=Zc _ _ _ _ hbW h1
   replace h2:=Zc _ _ _ _ hbW h2
   replace h3:=Zc _ _ _ _ hbW h3
   rcases Nat.eq_zero_or_pos i with hi0 | hi0
   ·have hr30:R3=0:=by have:=HR3'.out;omega
    have hr20:R2=0:=by have:=HR2'.out;omega
    subst hr30 hr20 hi0
    have w0:IntKind.i64.wrap 0=0:=by decide
    rw [if_pos rfl] at h2 h3
    have hv:=Lib.hid (zAs hS h1 h2 h3)
    repeat (first | (refine Zf (later_moves) rfl rfl (fun _ _ _ h=>h) ?_;simp only [Act.put,zLa,zLb,zLc]) | (refine Ze (v:=?_) (later_moves) rfl rfl (fun _ _ _ h=>h) ?_ ?_;rotate_left;(· (intro w' hR;(first | have hcells:=Zb ((later_moves).trans _ _ _ hacc hR) | skip);go_simp;try with_reducible rfl));simp only [Act.put,zLa,zLb,zLc]))
    refine Zk (later_moves) rfl rfl rfl (fun _=>by go_simp <;> rfl) ((HC.out _ _ _ _ _ _ _ _ _ hv.out HQ4.out).mono ?_)
    rintro e w7 ⟨v,rfl,hv7,hbx⟩
    refine ⟨_,rfl,hbx,?_⟩
    replace hacc:=(later_moves).trans _ _ _ hacc (hbx)
    simp only [Act.put,zLa,zLb,zLc]
    repeat (first | (refine Zf (later_moves) rfl rfl (fun _ _ _ h=>h) ?_;simp only [Act.put,zLa,zLb,zLc]) | (refine Ze (v:=?_) (later_moves) rfl rfl (fun _ _ _ h=>h) ?_ ?_;rotate_left;(· (intro w' hR;(first | have hcells:=Zb ((later_moves).trans _ _ _ hacc hR) | skip);go_simp;try with_reducible rfl));simp only [Act.put,zLa,zLb,zLc]))
    refine Zt ?_
    go_wp2
    go_ret
    exact ⟨v,rfl,hv7.mono (Za (Za hb0 hb) hbW).size,Za (Za (Za hb0 hb) hbW) hbx⟩
   ·have hne1:¬R3=i:=by have:=HR3'.out;omega
    have hne2:¬R3=R2:=by have:=HR3'.out;have:=HR2'.out;omega
    rw [if_neg hne1] at h2
    rw [if_neg hne2] at h3
    have hv:=Lib.hid (zAs hS h1 h2 h3)
    repeat (first | (refine Zf (later_moves) rfl rfl (fun _ _ _ h=>h) ?_;simp only [Act.put,zLa,zLb,zLc]) | (refine Ze (v:=?_) (later_moves) rfl rfl (fun _ _ _ h=>h) ?_ ?_;rotate_left;(· (intro w' hR;(first | have hcells:=Zb ((later_moves).trans _ _ _ hacc hR) | skip);go_simp;try with_reducible rfl));simp only [Act.put,zLa,zLb,zLc]))
    refine Zk (later_moves) rfl rfl rfl (fun _=>by go_simp <;> rfl) ((HC.out _ _ _ _ _ _ _ _ _ hv.out HQ4.out).mono ?_)
    rintro e w7 ⟨v,rfl,hv7,hbx⟩
    refine ⟨_,rfl,hbx,?_⟩
    replace hacc:=(later_moves).trans _ _ _ hacc (hbx)
    simp only [Act.put,zLa,zLb,zLc]
    repeat (first | (refine Zf (later_moves) rfl rfl (fun _ _ _ h=>h) ?_;simp only [Act.put,zLa,zLb,zLc]) | (refine Ze (v:=?_) (later_moves) rfl rfl (fun _ _ _ h=>h) ?_ ?_;rotate_left;(· (intro w' hR;(first | have hcells:=Zb ((later_moves).trans _ _ _ hacc hR) | skip);go_simp;try with_reducible rfl));simp only [Act.put,zLa,zLb,zLc]))
    refine Zt ?_
    go_wp2
    go_ret
    exact ⟨v,rfl,hv7.mono (Za (Za hb0 hb) hbW).size,Za (Za (Za hb0 hb) hbW) hbx⟩
end Go.Proofs.YtakjnmojigechaaGreat
