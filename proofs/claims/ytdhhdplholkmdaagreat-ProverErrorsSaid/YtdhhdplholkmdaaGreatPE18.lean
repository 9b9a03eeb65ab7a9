/- A part of the proof. No condition. -/
import Derived.Test.YtdhhdplholkmdaaGreatProg
import Derived.Test.YtdhhdplholkmdaaGreatPE17

namespace Go.Proofs.YtdhhdplholkmdaaGreat
open Go.RowKit
set_option linter.unusedVariables false in
set_option maxRecDepth 100000 in
set_option maxHeartbeats 4000000 in
theorem Ut (p U V:Nat) (A:Option Addr) (n c:Nat) (rows:List Zv) (b q:Nat) (w:World) (hr:RSl 3 Z9 w [.slice A n c] rows) (ht:Zr p U V rows=true)
  (h0:2≤b) (h1:b≤256) (h2:b &&& (b-1)=0) (h3:1≤q) (h4:q≤64) :
  Calls Tryz.prog 38 (Zq p U V A n c b 2 q) w fun e w'=>Yo ⟨p,U,V,rows.length,b,2,q⟩ e∧Below w.heap.size w w':=by
 have hok:=Z0 ht
 obtain ⟨hp1,hp⟩:=ZA hok
 have HV:=Lib.hid (fun w' (hb:Below w.heap.size w w')=>Zy p U V A n c rows w' (Zn Zj _ _ _ _ hb hr) hp)
 rw [ht] at HV
 have hand:=Ya ⟨b,by omega⟩ (by show 2≤b;omega)
 simp only at hand
 rw [h2] at hand
 have htt:U<V∧V≤65536∧rows.length≤16384:=by
  unfold Zr at ht
  simp only [Bool.and_eq_true,Bool.not_eq_true',decide_eq_false_iff_not] at ht
  omega
 obtain ⟨t1,t2,t3⟩:=htt
 obtain ⟨A',n',c',he,hlen,hnc,hmx,-⟩:=hr
 simp at he
 obtain ⟨rfl,rfl,rfl⟩:=he
 subst hlen
 unfold Zq ZE
 have hb0:Below w.heap.size w (((w.alloc (.cells #[.int .u64 (p:Int), .int .i64 (U:Int), .int .i64 (V:Int), .slice A rows.length c] 25)).alloc (.cells #[.int .i64 (b:Int), .int .i64 2, .int .i64 (q:Int)] 27)).alloc (.cells Zm 38)):=(((Below.refl _ w).alloc (Nat.le_refl _) _).alloc (by simp) _).alloc (by simp;omega) _
 unfold Zm at hb0
 have d1:decide ((b:Int)<2)=false:=decide_eq_false (by omega)
 have d2:decide ((256:Int)<(b:Int))=false:=decide_eq_false (by omega)
 have d4:decide ((q:Int)<1)=false:=decide_eq_false (by omega)
 have d5:decide ((64:Int)<(q:Int))=false:=decide_eq_false (by omega)
 have i1:(1:Int)≤(b:Int):=by omega
 have i2:(0:Int)≤(b:Int)-1:=by omega
 have i3:(b:Int)≤256:=by omega
 have i4:(1:Int)≤(q:Int):=by omega
 have i5:(q:Int)≤64:=by omega
 obtain ⟨k,hk⟩:∃ k,k=b+q:=⟨_,rfl⟩
 have ek:(b:Int)+(q:Int)=(k:Int):=by omega
 obtain ⟨s,hs⟩:∃ s,s=V-1-U:=⟨_,rfl⟩
 have es:(V:Int)-1-(U:Int)=(s:Int):=by omega
 have i6:(V:Int)≤65536:=by omega
 have i7:(1:Int)≤(V:Int):=by omega
 have i8:(k:Int)≤320:=by omega
 have i9:(0:Int)≤(k:Int):=by omega
 obtain ⟨pm,hpm⟩:∃ pm,pm=p-1:=⟨_,rfl⟩
 have ep:IntKind.u64.wrap ((p:Int)-1)=(pm:Int):=by rw [hpm];exact Yi p 1 (by omega) hp
 have HF:=Lib.hid (fun w=>YW (2*k) w (by omega))
 have ek2:(2:Int)*(k:Int)=((2*k:Nat):Int):=by omega
 obtain ⟨kk,hkk⟩:∃ kk,kk=2*k:=⟨_,rfl⟩
 rw [←hkk] at HF ek2
 have ek3:IntKind.i64.wrap (kk:Int)=(kk:Int):=Zw _ (by omega) (by omega)
 have j1:kk≤640:=by omega
 have HB:=Lib.hid (And.intro h0 h1)
 have HQ:=Lib.hid (And.intro h3 h4)
 have HK:=Lib.hid hk
 have HS:=Lib.hid hs
 have HT:=Lib.hid (And.intro hok (And.intro t1 (And.intro t2 t3)))
 have gm:(rows.length:Int)≤16384:=by omega
 have HP:=Lib.hid (show pm=p-1∧17≤p from ⟨hpm,hp1⟩)
 have hb256:IntKind.u64.wrap (b:Int)=(b:Int):=ZV b (by omega)
 have HG:=Lib.hid (fun N NN hN hNN=>Yq (p:=p) (U:=U) (V:=V) (nr:=rows.length) (bw:=2) (N:=N) (NN:=NN) h0 h1 h2 h3 h4 (by omega) hpm hN hNN)
 have HB2:=Lib.hid h2
 have HKK:=Lib.hid (show kk=2*(b+q) by omega)
 clear h0 h1 h2 h3 h4 hk hs hkk hok hp hp1 ht t1 t2 t3 hpm
 go_enter Tryz.func38,Tryz.ntmps38
 go_upto_region 4 with (go_at_call 77;refine (HV.out _ hb0).mono ?_;rintro e w1 ⟨rfl,hb⟩;obtain ⟨k2,k3,k4,hbw⟩:=ZH hb;have p0:w1.cell? ⟨w.heap.size+1,0,none⟩=some (.int .i64 (b:Int)):=k3.cell 0;have p1:w1.cell? ⟨w.heap.size+1,1,none⟩=some (.int .i64 2):=k3.cell 1;have p2:w1.cell? ⟨w.heap.size+1,2,none⟩=some (.int .i64 (q:Int)):=k3.cell 2;have c2:=k2.cell;clear hb)
 have k2l:=k2.alloc (.cells #[.int .u64 (p:Int), .int .i64 (b:Int), .int .i64 (q:Int), .int .i64 (k:Int), .int .i64 0, .int .i64 (s:Int), .int .i64 (rows.length:Int), .int .i64 0, .int .i64 0, .int .i64 0, .int .i64 0] 38)
 have k3l:=k3.alloc (.cells #[.int .u64 (p:Int), .int .i64 (b:Int), .int .i64 (q:Int), .int .i64 (k:Int), .int .i64 0, .int .i64 (s:Int), .int .i64 (rows.length:Int), .int .i64 0, .int .i64 0, .int .i64 0, .int .i64 0] 38)
 have k4l:=k4.alloc (.cells #[.int .u64 (p:Int), .int .i64 (b:Int), .int .i64 (q:Int), .int .i64 (k:Int), .int .i64 0, .int .i64 (s:Int), .int .i64 (rows.length:Int), .int .i64 0, .int .i64 0, .int .i64 0, .int .i64 0] 38)
 have k6:=Blk.new w1 38 #[.int .u64 (p:Int), .int .i64 (b:Int), .int .i64 (q:Int), .int .i64 (k:Int), .int .i64 0, .int .i64 (s:Int), .int .i64 (rows.length:Int), .int .i64 0, .int .i64 0, .int .i64 0, .int .i64 0]
 have hbl:=hbw.alloc hbw.size (.cells #[.int .u64 (p:Int), .int .i64 (b:Int), .int .i64 (q:Int), .int .i64 (k:Int), .int .i64 0, .int .i64 (s:Int), .int .i64 (rows.length:Int), .int .i64 0, .int .i64 0, .int .i64 0, .int .i64 0] 38)
 have hg:=k4.lt
 clear p0 p1 p2 k2 k3 k4 hbw c2
 revert k2l k3l k4l k6 hbl
 generalize w1.alloc _=wl
 generalize w1.heap.size=g at *
 intro k2 k3 k4 k6 hbl
 have p0:wl.cell? ⟨w.heap.size,0,none⟩=some (.int .u64 (p:Int)):=k2.cell 0
 have p1:wl.cell? ⟨w.heap.size+1,1,none⟩=some (.int .i64 2):=k3.cell 1
 have c6:=k6.cell
 have f6:=k6.frozen
 have n1:w.heap.size+1≠g:=by omega
 have l1:=k3.lt
 refine ZI (YP g 4) [5,8] [0,1,2,3,4,5,6,7,8] (by kernel_rfl) (by kernel_rfl) ?_
 refine ZY (Zb g 4) ?_
 intro Wc hacc
 repeat (first | (refine Zh (Zb g 4) rfl rfl (fun _ _ _ h=>h) ?_;simp only [Act.put,zLa,zLb,zLc]) | (refine Zf (v:=?_) (Zb g 4) rfl rfl (fun _ _ _ h=>h) ?_ ?_;rotate_left;(· (intro w' hR;(first | have hcells:=ZG ((Zb g 4).trans _ _ _ hacc hR) | skip);have hown:=Z3 ((Zb g 4).trans _ _ _ hacc hR) k6;go_simp;try with_reducible rfl));simp only [Act.put,zLa,zLb,zLc]))
 refine Zt (Zb g 4) rfl rfl rfl (fun _=>by go_simp <;> rfl) ((HF.out _).mono ?_)
 rintro e w2 ⟨N,HN,hN2,rfl,rfl⟩
 refine ⟨_,rfl,(Zb g 4).refl _,?_⟩
 replace hacc:=(Zb g 4).trans _ _ _ hacc ((Zb g 4).refl _)
 simp only [Act.put,zLa,zLb,zLc]
 have hN3:N≤1281:=by omega
 obtain ⟨NN,hNN⟩:∃ NN,NN=2*N:=⟨_,rfl⟩
 have eN1:(2:Int)*(N:Int)=(NN:Int):=by omega
 have eN2:IntKind.i64.wrap (NN:Int)=(NN:Int):=Zw _ (by omega) (by omega)
 rw [HKK.out] at HN
 replace HG:=Lib.hid (HG.out _ _ HN hNN)
 replace HN:=Lib.hid HN
 replace hNN:=Lib.hid hNN
 repeat (first | (refine Zh (Zb g 4) rfl rfl (fun _ _ _ h=>h) ?_;simp only [Act.put,zLa,zLb,zLc]) | (refine Zf (v:=?_) (Zb g 4) rfl rfl (fun _ _ _ h=>h) ?_ ?_;rotate_left;(· (intro w' hR;(first | have hcells:=ZG ((Zb g 4).trans _ _ _ hacc hR) | skip);have hown:=Z3 ((Zb g 4).trans _ _ _ hacc hR) k6;go_simp;try with_reducible rfl));simp only [Act.put,zLa,zLb,zLc]))
 have hNN2:NN≤10248:=by omega
 obtain ⟨v,kv⟩:=hacc.2 _ _ k6.drew
 have cv:=kv.cell
 have fv:=kv.frozen
 refine Yu (Zb g 4) rfl rfl rfl ?_
 go_simp
 refine ⟨Z6 _ _,?_⟩
 replace hacc:=(Zb g 4).trans _ _ _ hacc (Z6 w2 (.int .i64 (NN:Int)))
 replace kv:=kv.set_ 4 (.int .i64 (NN:Int))
 simp at kv
 refine ZQ ?_
 have n2:w.heap.size+1+1≠g:=by omega
 have hgw:w.heap.size≤g:=by omega
 have n0:w.heap.size≠g:=by omega
 have hgb:=hacc.1
 have k2':=k2.drew.grown hgb (by simp;omega)
 have k4':=k4.drew.grown hgb (by simp;omega)
 have hbl':=hbl.drew.trans (ZK hgb w.heap.size (by simp;exact hbl.size) (fun x hx=>by injection hx;omega))
 clear k2 k3 k4 hbl hgb hacc p0 p1 c6 f6 cv fv k6 l1 eN2 eN1 ek ek2 ek3 es hand ep i1 i2 d1 d2 d4 d5 j1 hg n0 n1
 revert kv k2' k4' hbl'
 generalize w2.setCell _ _=wl
 intro kv k2 k4 hbl
 have p0:wl.cell? ⟨w.heap.size,0,none⟩=some (.int .u64 (p:Int)):=k2.cell 0
 have c6:=kv.cell
 have f6:=kv.frozen
 have c4:=k4.cell
 have f4:=k4.frozen
 have hN0:0<NN:=by
  obtain ⟨⟨z,hz⟩,-⟩:=HN.out
  have:0<2^z:=Nat.pow_pos (by omega)
  have:=hNN.out
  omega
 have ep:IntKind.u64.wrap ((p:Int)-1)=(pm:Int):=by rw [HP.out.1];exact Yi p 1 (by have:=HP.out.2;omega) (ZA HT.out.1).2
 have eN:IntKind.u64.wrap (NN:Int)=(NN:Int):=ZV _ (by omega)
 have q1:(0:Int)<(b:Int):=by have:=HB.out;omega
 have q2:¬((b:Int)=0):=by omega
 have q3:¬(b=0):=by omega
 have q4:(0:Int)<(NN:Int):=by omega
 have q5:¬((NN:Int)=0):=by omega
 have q6:¬(NN=0):=by omega
 have r1:(pm:Int)%(b:Int)=((pm%b:Nat):Int):=rfl
 have r2:(pm:Int)%(NN:Int)=((pm%NN:Nat):Int):=rfl
 have r3:(pm:Int).tmod (b:Int)=((pm%b:Nat):Int):=rfl
 have r4:(pm:Int).tmod (NN:Int)=((pm%NN:Nat):Int):=rfl
 have HERR:Hid (∀ {er:Int},(if pm%b≠0∨pm%NN≠0∨pm≤NN then (7:Int) else if 1024<NN then 3 else 0)=er→er=Yg ⟨p,U,V,rows.length,b,2,q⟩):=fun h=>h.symm.trans (HG.out.2).symm
 obtain ⟨x1,hx1⟩:∃ x1,x1=pm%b:=⟨_,rfl⟩
 obtain ⟨x2,hx2⟩:∃ x2,x2=pm%NN:=⟨_,rfl⟩
 rw [←hx1] at r1 r3
 rw [←hx2] at r2 r4
 have HX1:=Lib.hid hx1.symm
 have HX2:=Lib.hid hx2.symm
 clear hx1 hx2
 by_cases z1:x1=0
 ·subst z1
  by_cases z2:x2=0
  ·subst z2
   by_cases z3:pm≤NN
   ·have y1:decide ((pm:Int)≤(NN:Int))=true:=decide_eq_true (by omega)
    have y2:decide (pm≤NN)=true:=decide_eq_true z3
    go_wp2_with fail
    have kW:=Zi k4 (.int .u64 0) (.int .i64 0) (.int .i64 0) (.int .i64 0) (.int .i64 0) (.int .i64 0) (.int .i64 0) (.int .i64 0) (.int .i64 0) (.int .i64 0) (.int .i64 0)
    have hW:=Ze (g:=w.heap.size+1+1) hbl (by omega) (.int .u64 0) (.int .i64 0) (.int .i64 0) (.int .i64 0) (.int .i64 0) (.int .i64 0) (.int .i64 0) (.int .i64 0) (.int .i64 0) (.int .i64 0) (.int .i64 0)
    clear c4 f4 c6 f6 p0 k4 kv
    revert kW hW
    generalize ((((((((((wl.setCell _ _).setCell _ _).setCell _ _).setCell _ _).setCell _ _).setCell _ _).setCell _ _).setCell _ _).setCell _ _).setCell _ _).setCell _ _=wf
    intro kW hW
    have c4:=kW.cell
    exact bodyPost_ret (v:=.tuple #[.agg Zm, .int .i64 7]) (by simp [results,Tryz.results38,go_sem,c4,Zm]) rfl ⟨⟨_,_,rfl, .inl ⟨by decide,rfl,HERR.out (by rw [if_pos (.inr (.inr z3))])⟩⟩,hW⟩
   ·have y1:decide ((pm:Int)≤(NN:Int))=false:=decide_eq_false (by omega)
    have y2:decide (pm≤NN)=false:=decide_eq_false z3
    by_cases z4:1024<NN
    ·have y3:decide ((1024:Int)<(NN:Int))=true:=decide_eq_true (by omega)
     have y4:decide (1024<NN)=true:=decide_eq_true z4
     go_wp2_with fail
     have kW:=Zi k4 (.int .u64 0) (.int .i64 0) (.int .i64 0) (.int .i64 0) (.int .i64 0) (.int .i64 0) (.int .i64 0) (.int .i64 0) (.int .i64 0) (.int .i64 0) (.int .i64 0)
     have hW:=Ze (g:=w.heap.size+1+1) hbl (by omega) (.int .u64 0) (.int .i64 0) (.int .i64 0) (.int .i64 0) (.int .i64 0) (.int .i64 0) (.int .i64 0) (.int .i64 0) (.int .i64 0) (.int .i64 0) (.int .i64 0)
     clear c4 f4 c6 f6 p0 k4 kv
     revert kW hW
     generalize ((((((((((wl.setCell _ _).setCell _ _).setCell _ _).setCell _ _).setCell _ _).setCell _ _).setCell _ _).setCell _ _).setCell _ _).setCell _ _).setCell _ _=wf
     intro kW hW
     have c4:=kW.cell
     exact bodyPost_ret (v:=.tuple #[.agg Zm, .int .i64 3]) (by simp [results,Tryz.results38,go_sem,c4,Zm]) rfl ⟨⟨_,_,rfl, .inl ⟨by decide,rfl,HERR.out (by rw [if_neg (by rw [HX1.out,HX2.out];omega),if_pos z4])⟩⟩,hW⟩
    ·have y3:decide ((1024:Int)<(NN:Int))=false:=decide_eq_false (by omega)
     have y4:decide (1024<NN)=false:=decide_eq_false z4
     have HU:=Lib.hid (fun w=>YT rows.length b w (by have:=HT.out;omega) (by omega) (by omega))
     have HV2:=Lib.hid (fun w=>YT s b w (by have:=HT.out;have:=HS.out;omega) (by omega) (by omega))
     have u1:(rows.length+b-1) / b≤100000:=Nat.le_trans (Nat.div_le_self _ _) (by omega)
     have u2:(s+b-1) / b≤100000:=Nat.le_trans (Nat.div_le_self _ _) (by have:=HT.out;have:=HS.out;omega)
     revert HU HV2 u1 u2
     obtain ⟨ub,hub⟩:∃ ub,ub=(rows.length+b-1) / b:=⟨_,rfl⟩
     obtain ⟨ua,hua⟩:∃ ua,ua=(s+b-1) / b:=⟨_,rfl⟩
     rw [←hub,←hua]
     have HUB:=Lib.hid hub
     have HUA:=Lib.hid hua
     clear hub hua
     intro HU HV2 u1 u2
     go_wp2_with fail
     refine (HU.out _).mono ?_
     rintro e w5 ⟨rfl,rfl⟩
     go_wp2_with fail
     refine (HV2.out _).mono ?_
     rintro e w6 ⟨rfl,rfl⟩
     go_wp2_with fail
     have k5:=(((k4.far (p:=⟨g,7,none⟩) n2 (.int .i64 (ua:Int))).far (p:=⟨g,8,none⟩) n2 (.int .i64 (ub:Int))).far (p:=⟨g,9,none⟩) n2 (.int .i64 (ub:Int))).far (p:=⟨g,10,none⟩) n2 (.int .i64 (ub:Int))
     have hb5:=(((hbl.setCell (p:=⟨g,7,none⟩) hgw (.int .i64 (ua:Int))).setCell (p:=⟨g,8,none⟩) hgw (.int .i64 (ub:Int))).setCell (p:=⟨g,9,none⟩) hgw (.int .i64 (ub:Int))).setCell (p:=⟨g,10,none⟩) hgw (.int .i64 (ub:Int))
     have kW:=Zi k5 (.int .u64 (p:Int)) (.int .i64 (b:Int)) (.int .i64 (q:Int)) (.int .i64 (k:Int)) (.int .i64 (NN:Int)) (.int .i64 (s:Int)) (.int .i64 (rows.length:Int)) (.int .i64 (ua:Int)) (.int .i64 (ub:Int)) (.int .i64 (ub:Int)) (.int .i64 (ub:Int))
     have hW:=Ze (g:=w.heap.size+1+1) hb5 (by omega) (.int .u64 (p:Int)) (.int .i64 (b:Int)) (.int .i64 (q:Int)) (.int .i64 (k:Int)) (.int .i64 (NN:Int)) (.int .i64 (s:Int)) (.int .i64 (rows.length:Int)) (.int .i64 (ua:Int)) (.int .i64 (ub:Int)) (.int .i64 (ub:Int)) (.int .i64 (ub:Int))
     clear c4 f4 c6 f6 p0 k4 kv k5 hb5
     revert kW hW
     generalize ((((((((((World.setCell _ _ _).setCell _ _).setCell _ _).setCell _ _).setCell _ _).setCell _ _).setCell _ _).setCell _ _).setCell _ _).setCell _ _).setCell _ _=wf
     intro kW hW
     have c4:=kW.cell
     have HL:Yr ⟨p,b,q,k,NN,s,rows.length,ua,ub⟩:=by
      have hB:=HB.out
      have hQ:=HQ.out
      have hT:=HT.out
      obtain ⟨⟨z,hz⟩,hz2,-⟩:=HN.out
      refine ⟨hT.1,hB.1,hB.2,hQ.1,hQ.2,HK.out,⟨z+1,?_⟩,by show NN≤1024;omega,by have:=HS.out;show s≤65536;omega,hT.2.2.2,u2,u1,HB2.out,?_,?_,?_,?_,HUA.out,HUB.out⟩
      ·show NN=2^(z+1)
       rw [hNN.out,hz,Nat.pow_add,Nat.mul_comm]
      ·show (p-1)%b=0
       rw [←HP.out.1];exact HX1.out
      ·show (p-1)%NN=0
       rw [←HP.out.1];exact HX2.out
      ·show NN<p-1
       rw [←HP.out.1];omega
      ·show 2*k≤NN
       have:=hNN.out
       have:=HK.out
       omega
     have HF2:YB ⟨p,b,q,k,NN,s,rows.length,ua,ub⟩ ⟨p,U,V,rows.length,b,2,q⟩:=by
      have e1:((V:Int)-1-(U:Int)).toNat=s:=by have:=HS.out;omega
      refine ⟨rfl,?_,(HERR.out (by rw [if_neg (by rw [HX1.out,HX2.out];omega),if_neg z4])).symm,by show (0:Int)≤U;omega,by have:=HT.out;show (U:Int)<V;omega⟩
      have e5:NewIn.n ⟨p,U,V,rows.length,b,2,q⟩=NN:=HG.out.1.symm
      unfold Y6
      simp only [Int.toNat_natCast,e1]
      rw [e5,HK.out,HUA.out,HUB.out]
     exact bodyPost_ret (v:=.tuple #[.agg (ZP ⟨p,b,q,k,NN,s,rows.length,ua,ub⟩), .int .i64 0]) (by simp [results,Tryz.results38,go_sem,c4,ZP]) rfl ⟨⟨_,_,rfl, .inr ⟨rfl,_,HL,HF2,rfl⟩⟩,hW⟩
  ·have y1:((x2:Int) != 0)=true:=by rw [bne_iff_ne];omega
   have y2:(x2 != 0)=true:=by rw [bne_iff_ne];exact z2
   go_wp2_with fail
   have kW:=Zi k4 (.int .u64 0) (.int .i64 0) (.int .i64 0) (.int .i64 0) (.int .i64 0) (.int .i64 0) (.int .i64 0) (.int .i64 0) (.int .i64 0) (.int .i64 0) (.int .i64 0)
   have hW:=Ze (g:=w.heap.size+1+1) hbl (by omega) (.int .u64 0) (.int .i64 0) (.int .i64 0) (.int .i64 0) (.int .i64 0) (.int .i64 0) (.int .i64 0) (.int .i64 0) (.int .i64 0) (.int .i64 0) (.int .i64 0)
   clear c4 f4 c6 f6 p0 k4 kv
   revert kW hW
   generalize ((((((((((wl.setCell _ _).setCell _ _).setCell _ _).setCell _ _).setCell _ _).setCell _ _).setCell _ _).setCell _ _).setCell _ _).setCell _ _).setCell _ _=wf
   intro kW hW
   have c4:=kW.cell
   exact bodyPost_ret (v:=.tuple #[.agg Zm, .int .i64 7]) (by simp [results,Tryz.results38,go_sem,c4,Zm]) rfl ⟨⟨_,_,rfl, .inl ⟨by decide,rfl,HERR.out (by rw [if_pos (.inr (.inl (by rw [HX2.out];exact z2)))])⟩⟩,hW⟩
 ·have y1:((x1:Int) != 0)=true:=by rw [bne_iff_ne];omega
  have y2:(x1 != 0)=true:=by rw [bne_iff_ne];exact z1
  go_wp2_with fail
  have kW:=Zi k4 (.int .u64 0) (.int .i64 0) (.int .i64 0) (.int .i64 0) (.int .i64 0) (.int .i64 0) (.int .i64 0) (.int .i64 0) (.int .i64 0) (.int .i64 0) (.int .i64 0)
  have hW:=Ze (g:=w.heap.size+1+1) hbl (by omega) (.int .u64 0) (.int .i64 0) (.int .i64 0) (.int .i64 0) (.int .i64 0) (.int .i64 0) (.int .i64 0) (.int .i64 0) (.int .i64 0) (.int .i64 0) (.int .i64 0)
  clear c4 f4 c6 f6 p0 k4 kv
  revert kW hW
  generalize ((((((((((wl.setCell _ _).setCell _ _).setCell _ _).setCell _ _).setCell _ _).setCell _ _).setCell _ _).setCell _ _).setCell _ _).setCell _ _).setCell _ _=wf
  intro kW hW
  have c4:=kW.cell
  exact bodyPost_ret (v:=.tuple #[.agg Zm, .int .i64 7]) (by simp [results,Tryz.results38,go_sem,c4,Zm]) rfl ⟨⟨_,_,rfl, .inl ⟨by decide,rfl,HERR.out (by rw [if_pos (.inl (by rw [HX1.out];exact z1))])⟩⟩,hW⟩
end Go.Proofs.YtdhhdplholkmdaaGreat
