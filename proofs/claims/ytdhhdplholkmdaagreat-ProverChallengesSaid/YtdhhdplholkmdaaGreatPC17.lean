/- A part of the proof. No condition. -/
import Derived.Test.YtdhhdplholkmdaaGreatProg
import Derived.Test.YtdhhdplholkmdaaGreatPC14
import Derived.Test.YtdhhdplholkmdaaGreatPC13

namespace Go.Proofs.YtdhhdplholkmdaaGreat
open Go.RowKit
set_option linter.unusedVariables false in
set_option maxRecDepth 100000 in
set_option maxHeartbeats 4000000 in
theorem kL (p U V:Nat) (A:Option Addr) (n c:Nat) (rows:List Yb) (b q:Nat) (w:World) (hr:RSl 3 XI w [.slice A n c] rows) (ht:ZZ p U V rows=true)
  (h0:2≤b) (h1:b≤256) (h2:b &&& (b-1)=0) (h3:1≤q) (h4:q≤64) :
  Calls Tryz.prog 38 (YE p U V A n c b 2 q) w fun e w'=>UC ⟨p,U,V,rows.length,b,2,q⟩ e∧Below w.heap.size w w':=by
 have hok:=Xq ht
 obtain ⟨hp1,hp⟩:=Z5 hok
 have HV:=Lib.hid (fun w' (hb:Below w.heap.size w w')=>Yo p U V A n c rows w' (ZQ ZG _ _ _ _ hb hr) hp)
 rw [ht] at HV
 have hand:=Vw ⟨b,by omega⟩ (by show 2≤b;omega)
 simp only at hand
 rw [h2] at hand
 have htt:U<V∧V≤65536∧rows.length≤16384:=by
  unfold ZZ at ht
  simp only [Bool.and_eq_true,Bool.not_eq_true',decide_eq_false_iff_not] at ht
  omega
 obtain ⟨t1,t2,t3⟩:=htt
 obtain ⟨A',n',c',he,hlen,hnc,hmx,-⟩:=hr
 simp at he
 obtain ⟨rfl,rfl,rfl⟩:=he
 subst hlen
 unfold YE Yz
 have hb0:Below w.heap.size w (((w.alloc (.cells #[.int .u64 (p:Int), .int .i64 (U:Int), .int .i64 (V:Int), .slice A rows.length c] 25)).alloc (.cells #[.int .i64 (b:Int), .int .i64 2, .int .i64 (q:Int)] 27)).alloc (.cells Z4 38)):=(((Below.refl _ w).alloc (Nat.le_refl _) _).alloc (by simp) _).alloc (by simp;omega) _
 unfold Z4 at hb0
 have d1:decide ((b:Int)<2)=false:=decide_eq_false (by omega)
 have d2:decide ((256:Int)<(b:Int))=false:=decide_eq_false (by omega)
 have d4:decide ((q:Int)<1)=false:=decide_eq_false (by omega)
 have d5:decide ((64:Int)<(q:Int))=false:=decide_eq_false (by omega)
 have i1:(1:Int)≤(b:Int):=by omega
 have i2:(0:Int)≤(b:Int)-1:=by omega
 have i3:(b:Int)≤256:=by omega
 have i4:(1:Int)≤(q:Int):=by omega
 have i5:(q:Int)≤64:=by omega
 obtain ⟨k,hk⟩:∃ k,k=b+q:=⟨_,rfl⟩
 have ek:(b:Int)+(q:Int)=(k:Int):=by omega
 obtain ⟨s,hs⟩:∃ s,s=V-1-U:=⟨_,rfl⟩
 have es:(V:Int)-1-(U:Int)=(s:Int):=by omega
 have i6:(V:Int)≤65536:=by omega
 have i7:(1:Int)≤(V:Int):=by omega
 have i8:(k:Int)≤320:=by omega
 have i9:(0:Int)≤(k:Int):=by omega
 obtain ⟨pm,hpm⟩:∃ pm,pm=p-1:=⟨_,rfl⟩
 have ep:IntKind.u64.wrap ((p:Int)-1)=(pm:Int):=by rw [hpm];exact Vi p 1 (by omega) hp
 have HF:=Lib.hid (fun w=>Jo (2*k) w (by omega))
 have ek2:(2:Int)*(k:Int)=((2*k:Nat):Int):=by omega
 obtain ⟨kk,hkk⟩:∃ kk,kk=2*k:=⟨_,rfl⟩
 rw [←hkk] at HF ek2
 have ek3:IntKind.i64.wrap (kk:Int)=(kk:Int):=Y1 _ (by omega) (by omega)
 have j1:kk≤640:=by omega
 have HB:=Lib.hid (And.intro h0 h1)
 have HQ:=Lib.hid (And.intro h3 h4)
 have HK:=Lib.hid hk
 have HS:=Lib.hid hs
 have HT:=Lib.hid (And.intro hok (And.intro t1 (And.intro t2 t3)))
 have gm:(rows.length:Int)≤16384:=by omega
 have HP:=Lib.hid (show pm=p-1∧17≤p from ⟨hpm,hp1⟩)
 have hb256:IntKind.u64.wrap (b:Int)=(b:Int):=Y6 b (by omega)
 have HG:=Lib.hid (fun N NN hN hNN=>V8 (p:=p) (U:=U) (V:=V) (nr:=rows.length) (bw:=2) (N:=N) (NN:=NN) h0 h1 h2 h3 h4 (by omega) hpm hN hNN)
 have HB2:=Lib.hid h2
 have HKK:=Lib.hid (show kk=2*(b+q) by omega)
 clear h0 h1 h2 h3 h4 hk hs hkk hok hp hp1 ht t1 t2 t3 hpm
 go_enter Tryz.func38,Tryz.ntmps38
 go_upto_region 4 with (go_at_call 77;refine (HV.out _ hb0).mono ?_;rintro e w1 ⟨rfl,hb⟩;obtain ⟨k2,k3,k4,hbw⟩:=YP hb;have p0:w1.cell? ⟨w.heap.size+1,0,none⟩=some (.int .i64 (b:Int)):=k3.cell 0;have p1:w1.cell? ⟨w.heap.size+1,1,none⟩=some (.int .i64 2):=k3.cell 1;have p2:w1.cell? ⟨w.heap.size+1,2,none⟩=some (.int .i64 (q:Int)):=k3.cell 2;have c2:=k2.cell;clear hb)
 have k2l:=k2.alloc (.cells #[.int .u64 (p:Int), .int .i64 (b:Int), .int .i64 (q:Int), .int .i64 (k:Int), .int .i64 0, .int .i64 (s:Int), .int .i64 (rows.length:Int), .int .i64 0, .int .i64 0, .int .i64 0, .int .i64 0] 38)
 have k3l:=k3.alloc (.cells #[.int .u64 (p:Int), .int .i64 (b:Int), .int .i64 (q:Int), .int .i64 (k:Int), .int .i64 0, .int .i64 (s:Int), .int .i64 (rows.length:Int), .int .i64 0, .int .i64 0, .int .i64 0, .int .i64 0] 38)
 have k4l:=k4.alloc (.cells #[.int .u64 (p:Int), .int .i64 (b:Int), .int .i64 (q:Int), .int .i64 (k:Int), .int .i64 0, .int .i64 (s:Int), .int .i64 (rows.length:Int), .int .i64 0, .int .i64 0, .int .i64 0, .int .i64 0] 38)
 have k6:=Blk.new w1 38 #[.int .u64 (p:Int), .int .i64 (b:Int), .int .i64 (q:Int), .int .i64 (k:Int), .int .i64 0, .int .i64 (s:Int), .int .i64 (rows.length:Int), .int .i64 0, .int .i64 0, .int .i64 0, .int .i64 0]
 have hbl:=hbw.alloc hbw.size (.cells #[.int .u64 (p:Int), .int .i64 (b:Int), .int .i64 (q:Int), .int .i64 (k:Int), .int .i64 0, .int .i64 (s:Int), .int .i64 (rows.length:Int), .int .i64 0, .int .i64 0, .int .i64 0, .int .i64 0] 38)
 have hg:=k4.lt
 clear p0 p1 p2 k2 k3 k4 hbw c2
 revert k2l k3l k4l k6 hbl
 generalize w1.alloc _=wl
 generalize w1.heap.size=g at *
 intro k2 k3 k4 k6 hbl
 have p0:wl.cell? ⟨w.heap.size,0,none⟩=some (.int .u64 (p:Int)):=k2.cell 0
 have p1:wl.cell? ⟨w.heap.size+1,1,none⟩=some (.int .i64 2):=k3.cell 1
 have c6:=k6.cell
 have f6:=k6.frozen
 have n1:w.heap.size+1≠g:=by omega
 have l1:=k3.lt
 refine Zx (UY g 4) [5,8] [0,1,2,3,4,5,6,7,8] (by kernel_rfl) (by kernel_rfl) ?_
 refine Yt (Zf g 4) ?_
 intro Wc hacc
 repeat (first | (refine Zh (Zf g 4) rfl rfl (fun _ _ _ h=>h) ?_;simp only [Act.put,zLa,zLb,zLc]) | (refine Ze (v:=?_) (Zf g 4) rfl rfl (fun _ _ _ h=>h) ?_ ?_;rotate_left;(· (intro w' hR;(first | have hcells:=YQ ((Zf g 4).trans _ _ _ hacc hR) | skip);have hown:=Xw ((Zf g 4).trans _ _ _ hacc hR) k6;go_simp;try with_reducible rfl));simp only [Act.put,zLa,zLb,zLc]))
 refine ZX (Zf g 4) rfl rfl rfl (fun _=>by go_simp <;> rfl) ((HF.out _).mono ?_)
 rintro e w2 ⟨N,HN,hN2,rfl,rfl⟩
 refine ⟨_,rfl,(Zf g 4).refl _,?_⟩
 replace hacc:=(Zf g 4).trans _ _ _ hacc ((Zf g 4).refl _)
 simp only [Act.put,zLa,zLb,zLc]
 have hN3:N≤1281:=by omega
 obtain ⟨NN,hNN⟩:∃ NN,NN=2*N:=⟨_,rfl⟩
 have eN1:(2:Int)*(N:Int)=(NN:Int):=by omega
 have eN2:IntKind.i64.wrap (NN:Int)=(NN:Int):=Y1 _ (by omega) (by omega)
 rw [HKK.out] at HN
 replace HG:=Lib.hid (HG.out _ _ HN hNN)
 replace HN:=Lib.hid HN
 replace hNN:=Lib.hid hNN
 repeat (first | (refine Zh (Zf g 4) rfl rfl (fun _ _ _ h=>h) ?_;simp only [Act.put,zLa,zLb,zLc]) | (refine Ze (v:=?_) (Zf g 4) rfl rfl (fun _ _ _ h=>h) ?_ ?_;rotate_left;(· (intro w' hR;(first | have hcells:=YQ ((Zf g 4).trans _ _ _ hacc hR) | skip);have hown:=Xw ((Zf g 4).trans _ _ _ hacc hR) k6;go_simp;try with_reducible rfl));simp only [Act.put,zLa,zLb,zLc]))
 have hNN2:NN≤10248:=by omega
 obtain ⟨v,kv⟩:=hacc.2 _ _ k6.drew
 have cv:=kv.cell
 have fv:=kv.frozen
 refine Zs (Zf g 4) rfl rfl rfl ?_
 go_simp
 refine ⟨Xx _ _,?_⟩
 replace hacc:=(Zf g 4).trans _ _ _ hacc (Xx w2 (.int .i64 (NN:Int)))
 replace kv:=kv.set_ 4 (.int .i64 (NN:Int))
 simp at kv
 refine Zt ?_
 have n2:w.heap.size+1+1≠g:=by omega
 have hgw:w.heap.size≤g:=by omega
 have n0:w.heap.size≠g:=by omega
 have hgb:=hacc.1
 have k2':=k2.drew.grown hgb (by simp;omega)
 have k4':=k4.drew.grown hgb (by simp;omega)
 have hbl':=hbl.drew.trans (Ya hgb w.heap.size (by simp;exact hbl.size) (fun x hx=>by injection hx;omega))
 clear k2 k3 k4 hbl hgb hacc p0 p1 c6 f6 cv fv k6 l1 eN2 eN1 ek ek2 ek3 es hand ep i1 i2 d1 d2 d4 d5 j1 hg n0 n1
 revert kv k2' k4' hbl'
 generalize w2.setCell _ _=wl
 intro kv k2 k4 hbl
 have p0:wl.cell? ⟨w.heap.size,0,none⟩=some (.int .u64 (p:Int)):=k2.cell 0
 have c6:=kv.cell
 have f6:=kv.frozen
 have c4:=k4.cell
 have f4:=k4.frozen
 have hN0:0<NN:=by
  obtain ⟨⟨z,hz⟩,-⟩:=HN.out
  have:0<2^z:=Nat.pow_pos (by omega)
  have:=hNN.out
  omega
 have ep:IntKind.u64.wrap ((p:Int)-1)=(pm:Int):=by rw [HP.out.1];exact Vi p 1 (by have:=HP.out.2;omega) (Z5 HT.out.1).2
 have eN:IntKind.u64.wrap (NN:Int)=(NN:Int):=Y6 _ (by omega)
 have q1:(0:Int)<(b:Int):=by have:=HB.out;omega
 have q2:¬((b:Int)=0):=by omega
 have q3:¬(b=0):=by omega
 have q4:(0:Int)<(NN:Int):=by omega
 have q5:¬((NN:Int)=0):=by omega
 have q6:¬(NN=0):=by omega
 have r1:(pm:Int)%(b:Int)=((pm%b:Nat):Int):=rfl
 have r2:(pm:Int)%(NN:Int)=((pm%NN:Nat):Int):=rfl
 have r3:(pm:Int).tmod (b:Int)=((pm%b:Nat):Int):=rfl
 have r4:(pm:Int).tmod (NN:Int)=((pm%NN:Nat):Int):=rfl
 have HERR:Hid (∀ {er:Int},(if pm%b≠0∨pm%NN≠0∨pm≤NN then (7:Int) else if 1024<NN then 3 else 0)=er→er=UH ⟨p,U,V,rows.length,b,2,q⟩):=fun h=>h.symm.trans (HG.out.2).symm
 obtain ⟨x1,hx1⟩:∃ x1,x1=pm%b:=⟨_,rfl⟩
 obtain ⟨x2,hx2⟩:∃ x2,x2=pm%NN:=⟨_,rfl⟩
 rw [←hx1] at r1 r3
 rw [←hx2] at r2 r4
 have HX1:=Lib.hid hx1.symm
 have HX2:=Lib.hid hx2.symm
 clear hx1 hx2
 by_cases z1:x1=0
 ·subst z1
  by_cases z2:x2=0
  ·subst z2
   by_cases z3:pm≤NN
   ·have y1:decide ((pm:Int)≤(NN:Int))=true:=decide_eq_true (by omega)
    have y2:decide (pm≤NN)=true:=decide_eq_true z3
    go_wp2_with fail
    have kW:=ZA k4 (.int .u64 0) (.int .i64 0) (.int .i64 0) (.int .i64 0) (.int .i64 0) (.int .i64 0) (.int .i64 0) (.int .i64 0) (.int .i64 0) (.int .i64 0) (.int .i64 0)
    have hW:=Zu (g:=w.heap.size+1+1) hbl (by omega) (.int .u64 0) (.int .i64 0) (.int .i64 0) (.int .i64 0) (.int .i64 0) (.int .i64 0) (.int .i64 0) (.int .i64 0) (.int .i64 0) (.int .i64 0) (.int .i64 0)
    clear c4 f4 c6 f6 p0 k4 kv
    revert kW hW
    generalize ((((((((((wl.setCell _ _).setCell _ _).setCell _ _).setCell _ _).setCell _ _).setCell _ _).setCell _ _).setCell _ _).setCell _ _).setCell _ _).setCell _ _=wf
    intro kW hW
    have c4:=kW.cell
    exact bodyPost_ret (v:=.tuple #[.agg Z4, .int .i64 7]) (by simp [results,Tryz.results38,go_sem,c4,Z4]) rfl ⟨⟨_,_,rfl, .inl ⟨by decide,rfl,HERR.out (by rw [if_pos (.inr (.inr z3))])⟩⟩,hW⟩
   ·have y1:decide ((pm:Int)≤(NN:Int))=false:=decide_eq_false (by omega)
    have y2:decide (pm≤NN)=false:=decide_eq_false z3
    by_cases z4:1024<NN
    ·have y3:decide ((1024:Int)<(NN:Int))=true:=decide_eq_true (by omega)
     have y4:decide (1024<NN)=true:=decide_eq_true z4
     go_wp2_with fail
     have kW:=ZA k4 (.int .u64 0) (.int .i64 0) (.int .i64 0) (.int .i64 0) (.int .i64 0) (.int .i64 0) (.int .i64 0) (.int .i64 0) (.int .i64 0) (.int .i64 0) (.int .i64 0)
     have hW:=Zu (g:=w.heap.size+1+1) hbl (by omega) (.int .u64 0) (.int .i64 0) (.int .i64 0) (.int .i64 0) (.int .i64 0) (.int .i64 0) (.int .i64 0) (.int .i64 0) (.int .i64 0) (.int .i64 0) (.int .i64 0)
     clear c4 f4 c6 f6 p0 k4 kv
     revert kW hW
     generalize ((((((((((wl.setCell _ _).setCell _ _).setCell _ _).setCell _ _).setCell _ _).setCell _ _).setCell _ _).setCell _ _).setCell _ _).setCell _ _).setCell _ _=wf
     intro kW hW
     have c4:=kW.cell
     exact bodyPost_ret (v:=.tuple #[.agg Z4, .int .i64 3]) (by simp [results,Tryz.results38,go_sem,c4,Z4]) rfl ⟨⟨_,_,rfl, .inl ⟨by decide,rfl,HERR.out (by rw [if_neg (by rw [HX1.out,HX2.out];omega),if_pos z4])⟩⟩,hW⟩
    ·have y3:decide ((1024:Int)<(NN:Int))=false:=decide_eq_false (by omega)
     have y4:decide (1024<NN)=false:=decide_eq_false z4
     have HU:=Lib.hid (fun w=>Ja rows.length b w (by have:=HT.out;omega) (by omega) (by omega))
     have HV2:=Lib.hid (fun w=>Ja s b w (by have:=HT.out;have:=HS.out;omega) (by omega) (by omega))
     have u1:(rows.length+b-1) / b≤100000:=Nat.le_trans (Nat.div_le_self _ _) (by omega)
     have u2:(s+b-1) / b≤100000:=Nat.le_trans (Nat.div_le_self _ _) (by have:=HT.out;have:=HS.out;omega)
     revert HU HV2 u1 u2
     obtain ⟨ub,hub⟩:∃ ub,ub=(rows.length+b-1) / b:=⟨_,rfl⟩
     obtain ⟨ua,hua⟩:∃ ua,ua=(s+b-1) / b:=⟨_,rfl⟩
     rw [←hub,←hua]
     have HUB:=Lib.hid hub
     have HUA:=Lib.hid hua
     clear hub hua
     intro HU HV2 u1 u2
     go_wp2_with fail
     refine (HU.out _).mono ?_
     rintro e w5 ⟨rfl,rfl⟩
     go_wp2_with fail
     refine (HV2.out _).mono ?_
     rintro e w6 ⟨rfl,rfl⟩
     go_wp2_with fail
     have k5:=(((k4.far (p:=⟨g,7,none⟩) n2 (.int .i64 (ua:Int))).far (p:=⟨g,8,none⟩) n2 (.int .i64 (ub:Int))).far (p:=⟨g,9,none⟩) n2 (.int .i64 (ub:Int))).far (p:=⟨g,10,none⟩) n2 (.int .i64 (ub:Int))
     have hb5:=(((hbl.setCell (p:=⟨g,7,none⟩) hgw (.int .i64 (ua:Int))).setCell (p:=⟨g,8,none⟩) hgw (.int .i64 (ub:Int))).setCell (p:=⟨g,9,none⟩) hgw (.int .i64 (ub:Int))).setCell (p:=⟨g,10,none⟩) hgw (.int .i64 (ub:Int))
     have kW:=ZA k5 (.int .u64 (p:Int)) (.int .i64 (b:Int)) (.int .i64 (q:Int)) (.int .i64 (k:Int)) (.int .i64 (NN:Int)) (.int .i64 (s:Int)) (.int .i64 (rows.length:Int)) (.int .i64 (ua:Int)) (.int .i64 (ub:Int)) (.int .i64 (ub:Int)) (.int .i64 (ub:Int))
     have hW:=Zu (g:=w.heap.size+1+1) hb5 (by omega) (.int .u64 (p:Int)) (.int .i64 (b:Int)) (.int .i64 (q:Int)) (.int .i64 (k:Int)) (.int .i64 (NN:Int)) (.int .i64 (s:Int)) (.int .i64 (rows.length:Int)) (.int .i64 (ua:Int)) (.int .i64 (ub:Int)) (.int .i64 (ub:Int)) (.int .i64 (ub:Int))
     clear c4 f4 c6 f6 p0 k4 kv k5 hb5
     revert kW hW
     generalize ((((((((((World.setCell _ _ _).setCell _ _).setCell _ _).setCell _ _).setCell _ _).setCell _ _).setCell _ _).setCell _ _).setCell _ _).setCell _ _).setCell _ _=wf
     intro kW hW
     have c4:=kW.cell
     have HL:Y7 ⟨p,b,q,k,NN,s,rows.length,ua,ub⟩:=by
      have hB:=HB.out
      have hQ:=HQ.out
      have hT:=HT.out
      obtain ⟨⟨z,hz⟩,hz2,-⟩:=HN.out
      refine ⟨hT.1,hB.1,hB.2,hQ.1,hQ.2,HK.out,⟨z+1,?_⟩,by show NN≤1024;omega,by have:=HS.out;show s≤65536;omega,hT.2.2.2,u2,u1,HB2.out,?_,?_,?_,?_,HUA.out,HUB.out⟩
      ·show NN=2^(z+1)
       rw [hNN.out,hz,Nat.pow_add,Nat.mul_comm]
      ·show (p-1)%b=0
       rw [←HP.out.1];exact HX1.out
      ·show (p-1)%NN=0
       rw [←HP.out.1];exact HX2.out
      ·show NN<p-1
       rw [←HP.out.1];omega
      ·show 2*k≤NN
       have:=hNN.out
       have:=HK.out
       omega
     have HF2:UO ⟨p,b,q,k,NN,s,rows.length,ua,ub⟩ ⟨p,U,V,rows.length,b,2,q⟩:=by
      have e1:((V:Int)-1-(U:Int)).toNat=s:=by have:=HS.out;omega
      refine ⟨rfl,?_,(HERR.out (by rw [if_neg (by rw [HX1.out,HX2.out];omega),if_neg z4])).symm,by show (0:Int)≤U;omega,by have:=HT.out;show (U:Int)<V;omega⟩
      have e5:NewIn.n ⟨p,U,V,rows.length,b,2,q⟩=NN:=HG.out.1.symm
      unfold G3
      simp only [Int.toNat_natCast,e1]
      rw [e5,HK.out,HUA.out,HUB.out]
     exact bodyPost_ret (v:=.tuple #[.agg (ZH ⟨p,b,q,k,NN,s,rows.length,ua,ub⟩), .int .i64 0]) (by simp [results,Tryz.results38,go_sem,c4,ZH]) rfl ⟨⟨_,_,rfl, .inr ⟨rfl,_,HL,HF2,rfl⟩⟩,hW⟩
  ·have y1:((x2:Int) != 0)=true:=by rw [bne_iff_ne];omega
   have y2:(x2 != 0)=true:=by rw [bne_iff_ne];exact z2
   go_wp2_with fail
   have kW:=ZA k4 (.int .u64 0) (.int .i64 0) (.int .i64 0) (.int .i64 0) (.int .i64 0) (.int .i64 0) (.int .i64 0) (.int .i64 0) (.int .i64 0) (.int .i64 0) (.int .i64 0)
   have hW:=Zu (g:=w.heap.size+1+1) hbl (by omega) (.int .u64 0) (.int .i64 0) (.int .i64 0) (.int .i64 0) (.int .i64 0) (.int .i64 0) (.int .i64 0) (.int .i64 0) (.int .i64 0) (.int .i64 0) (.int .i64 0)
   clear c4 f4 c6 f6 p0 k4 kv
   revert kW hW
   generalize ((((((((((wl.setCell _ _).setCell _ _).setCell _ _).setCell _ _).setCell _ _).setCell _ _).setCell _ _).setCell _ _).setCell _ _).setCell _ _).setCell _ _=wf
   intro kW hW
   have c4:=kW.cell
   exact bodyPost_ret (v:=.tuple #[.agg Z4, .int .i64 7]) (by simp [results,Tryz.results38,go_sem,c4,Z4]) rfl ⟨⟨_,_,rfl, .inl ⟨by decide,rfl,HERR.out (by rw [if_pos (.inr (.inl (by rw [HX2.out];exact z2)))])⟩⟩,hW⟩
 ·have y1:((x1:Int) != 0)=true:=by rw [bne_iff_ne];omega
  have y2:(x1 != 0)=true:=by rw [bne_iff_ne];exact z1
  go_wp2_with fail
  have kW:=ZA k4 (.int .u64 0) (.int .i64 0) (.int .i64 0) (.int .i64 0) (.int .i64 0) (.int .i64 0) (.int .i64 0) (.int .i64 0) (.int .i64 0) (.int .i64 0) (.int .i64 0)
  have hW:=Zu (g:=w.heap.size+1+1) hbl (by omega) (.int .u64 0) (.int .i64 0) (.int .i64 0) (.int .i64 0) (.int .i64 0) (.int .i64 0) (.int .i64 0) (.int .i64 0) (.int .i64 0) (.int .i64 0) (.int .i64 0)
  clear c4 f4 c6 f6 p0 k4 kv
  revert kW hW
  generalize ((((((((((wl.setCell _ _).setCell _ _).setCell _ _).setCell _ _).setCell _ _).setCell _ _).setCell _ _).setCell _ _).setCell _ _).setCell _ _).setCell _ _=wf
  intro kW hW
  have c4:=kW.cell
  exact bodyPost_ret (v:=.tuple #[.agg Z4, .int .i64 7]) (by simp [results,Tryz.results38,go_sem,c4,Z4]) rfl ⟨⟨_,_,rfl, .inl ⟨by decide,rfl,HERR.out (by rw [if_pos (.inl (by rw [HX1.out];exact z1))])⟩⟩,hW⟩
set_option linter.unusedVariables false in
set_option maxRecDepth 100000 in
set_option maxHeartbeats 4000000 in
theorem jN (p U V:Nat) (A:Option Addr) (n c:Nat) (rows:List Yb) (b q:Nat) (w:World) (hr:RSl 3 XI w [.slice A n c] rows) (ht:ZZ p U V rows=true)
  (h0:2≤b) (h1:b≤256) (h2:b &&& (b-1)=0) (h3:1≤q) (h4:q≤64) :
  Calls Tryz.prog 38 (YE p U V A n c b 4 q) w fun e w'=>UC ⟨p,U,V,rows.length,b,4,q⟩ e∧Below w.heap.size w w':=by
 have hok:=Xq ht
 obtain ⟨hp1,hp⟩:=Z5 hok
 have HV:=Lib.hid (fun w' (hb:Below w.heap.size w w')=>Yo p U V A n c rows w' (ZQ ZG _ _ _ _ hb hr) hp)
 rw [ht] at HV
 have hand:=Vw ⟨b,by omega⟩ (by show 2≤b;omega)
 simp only at hand
 rw [h2] at hand
 have htt:U<V∧V≤65536∧rows.length≤16384:=by
  unfold ZZ at ht
  simp only [Bool.and_eq_true,Bool.not_eq_true',decide_eq_false_iff_not] at ht
  omega
 obtain ⟨t1,t2,t3⟩:=htt
 obtain ⟨A',n',c',he,hlen,hnc,hmx,-⟩:=hr
 simp at he
 obtain ⟨rfl,rfl,rfl⟩:=he
 subst hlen
 unfold YE Yz
 have hb0:Below w.heap.size w (((w.alloc (.cells #[.int .u64 (p:Int), .int .i64 (U:Int), .int .i64 (V:Int), .slice A rows.length c] 25)).alloc (.cells #[.int .i64 (b:Int), .int .i64 4, .int .i64 (q:Int)] 27)).alloc (.cells Z4 38)):=(((Below.refl _ w).alloc (Nat.le_refl _) _).alloc (by simp) _).alloc (by simp;omega) _
 unfold Z4 at hb0
 have d1:decide ((b:Int)<2)=false:=decide_eq_false (by omega)
 have d2:decide ((256:Int)<(b:Int))=false:=decide_eq_false (by omega)
 have d4:decide ((q:Int)<1)=false:=decide_eq_false (by omega)
 have d5:decide ((64:Int)<(q:Int))=false:=decide_eq_false (by omega)
 have i1:(1:Int)≤(b:Int):=by omega
 have i2:(0:Int)≤(b:Int)-1:=by omega
 have i3:(b:Int)≤256:=by omega
 have i4:(1:Int)≤(q:Int):=by omega
 have i5:(q:Int)≤64:=by omega
 obtain ⟨k,hk⟩:∃ k,k=b+q:=⟨_,rfl⟩
 have ek:(b:Int)+(q:Int)=(k:Int):=by omega
 obtain ⟨s,hs⟩:∃ s,s=V-1-U:=⟨_,rfl⟩
 have es:(V:Int)-1-(U:Int)=(s:Int):=by omega
 have i6:(V:Int)≤65536:=by omega
 have i7:(1:Int)≤(V:Int):=by omega
 have i8:(k:Int)≤320:=by omega
 have i9:(0:Int)≤(k:Int):=by omega
 obtain ⟨pm,hpm⟩:∃ pm,pm=p-1:=⟨_,rfl⟩
 have ep:IntKind.u64.wrap ((p:Int)-1)=(pm:Int):=by rw [hpm];exact Vi p 1 (by omega) hp
 have HF:=Lib.hid (fun w=>Jo (2*k) w (by omega))
 have ek2:(2:Int)*(k:Int)=((2*k:Nat):Int):=by omega
 obtain ⟨kk,hkk⟩:∃ kk,kk=2*k:=⟨_,rfl⟩
 rw [←hkk] at HF ek2
 have ek3:IntKind.i64.wrap (kk:Int)=(kk:Int):=Y1 _ (by omega) (by omega)
 have j1:kk≤640:=by omega
 have HB:=Lib.hid (And.intro h0 h1)
 have HQ:=Lib.hid (And.intro h3 h4)
 have HK:=Lib.hid hk
 have HS:=Lib.hid hs
 have HT:=Lib.hid (And.intro hok (And.intro t1 (And.intro t2 t3)))
 have gm:(rows.length:Int)≤16384:=by omega
 have HP:=Lib.hid (show pm=p-1∧17≤p from ⟨hpm,hp1⟩)
 have hb256:IntKind.u64.wrap (b:Int)=(b:Int):=Y6 b (by omega)
 have HG:=Lib.hid (fun N NN hN hNN=>V8 (p:=p) (U:=U) (V:=V) (nr:=rows.length) (bw:=4) (N:=N) (NN:=NN) h0 h1 h2 h3 h4 (by omega) hpm hN hNN)
 have HB2:=Lib.hid h2
 have HKK:=Lib.hid (show kk=2*(b+q) by omega)
 clear h0 h1 h2 h3 h4 hk hs hkk hok hp hp1 ht t1 t2 t3 hpm
 go_enter Tryz.func38,Tryz.ntmps38
 go_upto_region 4 with (go_at_call 77;refine (HV.out _ hb0).mono ?_;rintro e w1 ⟨rfl,hb⟩;obtain ⟨k2,k3,k4,hbw⟩:=YP hb;have p0:w1.cell? ⟨w.heap.size+1,0,none⟩=some (.int .i64 (b:Int)):=k3.cell 0;have p1:w1.cell? ⟨w.heap.size+1,1,none⟩=some (.int .i64 4):=k3.cell 1;have p2:w1.cell? ⟨w.heap.size+1,2,none⟩=some (.int .i64 (q:Int)):=k3.cell 2;have c2:=k2.cell;clear hb)
 have k2l:=k2.alloc (.cells #[.int .u64 (p:Int), .int .i64 (b:Int), .int .i64 (q:Int), .int .i64 (k:Int), .int .i64 0, .int .i64 (s:Int), .int .i64 (rows.length:Int), .int .i64 0, .int .i64 0, .int .i64 0, .int .i64 0] 38)
 have k3l:=k3.alloc (.cells #[.int .u64 (p:Int), .int .i64 (b:Int), .int .i64 (q:Int), .int .i64 (k:Int), .int .i64 0, .int .i64 (s:Int), .int .i64 (rows.length:Int), .int .i64 0, .int .i64 0, .int .i64 0, .int .i64 0] 38)
 have k4l:=k4.alloc (.cells #[.int .u64 (p:Int), .int .i64 (b:Int), .int .i64 (q:Int), .int .i64 (k:Int), .int .i64 0, .int .i64 (s:Int), .int .i64 (rows.length:Int), .int .i64 0, .int .i64 0, .int .i64 0, .int .i64 0] 38)
 have k6:=Blk.new w1 38 #[.int .u64 (p:Int), .int .i64 (b:Int), .int .i64 (q:Int), .int .i64 (k:Int), .int .i64 0, .int .i64 (s:Int), .int .i64 (rows.length:Int), .int .i64 0, .int .i64 0, .int .i64 0, .int .i64 0]
 have hbl:=hbw.alloc hbw.size (.cells #[.int .u64 (p:Int), .int .i64 (b:Int), .int .i64 (q:Int), .int .i64 (k:Int), .int .i64 0, .int .i64 (s:Int), .int .i64 (rows.length:Int), .int .i64 0, .int .i64 0, .int .i64 0, .int .i64 0] 38)
 have hg:=k4.lt
 clear p0 p1 p2 k2 k3 k4 hbw c2
 revert k2l k3l k4l k6 hbl
 generalize w1.alloc _=wl
 generalize w1.heap.size=g at *
 intro k2 k3 k4 k6 hbl
 have p0:wl.cell? ⟨w.heap.size,0,none⟩=some (.int .u64 (p:Int)):=k2.cell 0
 have p1:wl.cell? ⟨w.heap.size+1,1,none⟩=some (.int .i64 4):=k3.cell 1
 have c6:=k6.cell
 have f6:=k6.frozen
 have n1:w.heap.size+1≠g:=by omega
 have l1:=k3.lt
 refine Zx (UY g 4) [5,8] [0,1,2,3,4,5,6,7,8] (by kernel_rfl) (by kernel_rfl) ?_
 refine Yt (Zf g 4) ?_
 intro Wc hacc
 repeat (first | (refine Zh (Zf g 4) rfl rfl (fun _ _ _ h=>h) ?_;simp only [Act.put,zLa,zLb,zLc]) | (refine Ze (v:=?_) (Zf g 4) rfl rfl (fun _ _ _ h=>h) ?_ ?_;rotate_left;(· (intro w' hR;(first | have hcells:=YQ ((Zf g 4).trans _ _ _ hacc hR) | skip);have hown:=Xw ((Zf g 4).trans _ _ _ hacc hR) k6;go_simp;try with_reducible rfl));simp only [Act.put,zLa,zLb,zLc]))
 refine ZX (Zf g 4) rfl rfl rfl (fun _=>by go_simp <;> rfl) ((HF.out _).mono ?_)
 rintro e w2 ⟨N,HN,hN2,rfl,rfl⟩
 refine ⟨_,rfl,(Zf g 4).refl _,?_⟩
 replace hacc:=(Zf g 4).trans _ _ _ hacc ((Zf g 4).refl _)
 simp only [Act.put,zLa,zLb,zLc]
 have hN3:N≤1281:=by omega
 obtain ⟨NN,hNN⟩:∃ NN,NN=4*N:=⟨_,rfl⟩
 have eN1:(4:Int)*(N:Int)=(NN:Int):=by omega
 have eN2:IntKind.i64.wrap (NN:Int)=(NN:Int):=Y1 _ (by omega) (by omega)
 rw [HKK.out] at HN
 replace HG:=Lib.hid (HG.out _ _ HN hNN)
 replace HN:=Lib.hid HN
 replace hNN:=Lib.hid hNN
 repeat (first | (refine Zh (Zf g 4) rfl rfl (fun _ _ _ h=>h) ?_;simp only [Act.put,zLa,zLb,zLc]) | (refine Ze (v:=?_) (Zf g 4) rfl rfl (fun _ _ _ h=>h) ?_ ?_;rotate_left;(· (intro w' hR;(first | have hcells:=YQ ((Zf g 4).trans _ _ _ hacc hR) | skip);have hown:=Xw ((Zf g 4).trans _ _ _ hacc hR) k6;go_simp;try with_reducible rfl));simp only [Act.put,zLa,zLb,zLc]))
 have hNN2:NN≤10248:=by omega
 obtain ⟨v,kv⟩:=hacc.2 _ _ k6.drew
 have cv:=kv.cell
 have fv:=kv.frozen
 refine Zs (Zf g 4) rfl rfl rfl ?_
 go_simp
 refine ⟨Xx _ _,?_⟩
 replace hacc:=(Zf g 4).trans _ _ _ hacc (Xx w2 (.int .i64 (NN:Int)))
 replace kv:=kv.set_ 4 (.int .i64 (NN:Int))
 simp at kv
 refine Zt ?_
 have n2:w.heap.size+1+1≠g:=by omega
 have hgw:w.heap.size≤g:=by omega
 have n0:w.heap.size≠g:=by omega
 have hgb:=hacc.1
 have k2':=k2.drew.grown hgb (by simp;omega)
 have k4':=k4.drew.grown hgb (by simp;omega)
 have hbl':=hbl.drew.trans (Ya hgb w.heap.size (by simp;exact hbl.size) (fun x hx=>by injection hx;omega))
 clear k2 k3 k4 hbl hgb hacc p0 p1 c6 f6 cv fv k6 l1 eN2 eN1 ek ek2 ek3 es hand ep i1 i2 d1 d2 d4 d5 j1 hg n0 n1
 revert kv k2' k4' hbl'
 generalize w2.setCell _ _=wl
 intro kv k2 k4 hbl
 have p0:wl.cell? ⟨w.heap.size,0,none⟩=some (.int .u64 (p:Int)):=k2.cell 0
 have c6:=kv.cell
 have f6:=kv.frozen
 have c4:=k4.cell
 have f4:=k4.frozen
 have hN0:0<NN:=by
  obtain ⟨⟨z,hz⟩,-⟩:=HN.out
  have:0<2^z:=Nat.pow_pos (by omega)
  have:=hNN.out
  omega
 have ep:IntKind.u64.wrap ((p:Int)-1)=(pm:Int):=by rw [HP.out.1];exact Vi p 1 (by have:=HP.out.2;omega) (Z5 HT.out.1).2
 have eN:IntKind.u64.wrap (NN:Int)=(NN:Int):=Y6 _ (by omega)
 have q1:(0:Int)<(b:Int):=by have:=HB.out;omega
 have q2:¬((b:Int)=0):=by omega
 have q3:¬(b=0):=by omega
 have q4:(0:Int)<(NN:Int):=by omega
 have q5:¬((NN:Int)=0):=by omega
 have q6:¬(NN=0):=by omega
 have r1:(pm:Int)%(b:Int)=((pm%b:Nat):Int):=rfl
 have r2:(pm:Int)%(NN:Int)=((pm%NN:Nat):Int):=rfl
 have r3:(pm:Int).tmod (b:Int)=((pm%b:Nat):Int):=rfl
 have r4:(pm:Int).tmod (NN:Int)=((pm%NN:Nat):Int):=rfl
 have HERR:Hid (∀ {er:Int},(if pm%b≠0∨pm%NN≠0∨pm≤NN then (7:Int) else if 1024<NN then 3 else 0)=er→er=UH ⟨p,U,V,rows.length,b,4,q⟩):=fun h=>h.symm.trans (HG.out.2).symm
 obtain ⟨x1,hx1⟩:∃ x1,x1=pm%b:=⟨_,rfl⟩
 obtain ⟨x2,hx2⟩:∃ x2,x2=pm%NN:=⟨_,rfl⟩
 rw [←hx1] at r1 r3
 rw [←hx2] at r2 r4
 have HX1:=Lib.hid hx1.symm
 have HX2:=Lib.hid hx2.symm
 clear hx1 hx2
 by_cases z1:x1=0
 ·subst z1
  by_cases z2:x2=0
  ·subst z2
   by_cases z3:pm≤NN
   ·have y1:decide ((pm:Int)≤(NN:Int))=true:=decide_eq_true (by omega)
    have y2:decide (pm≤NN)=true:=decide_eq_true z3
    go_wp2_with fail
    have kW:=ZA k4 (.int .u64 0) (.int .i64 0) (.int .i64 0) (.int .i64 0) (.int .i64 0) (.int .i64 0) (.int .i64 0) (.int .i64 0) (.int .i64 0) (.int .i64 0) (.int .i64 0)
    have hW:=Zu (g:=w.heap.size+1+1) hbl (by omega) (.int .u64 0) (.int .i64 0) (.int .i64 0) (.int .i64 0) (.int .i64 0) (.int .i64 0) (.int .i64 0) (.int .i64 0) (.int .i64 0) (.int .i64 0) (.int .i64 0)
    clear c4 f4 c6 f6 p0 k4 kv
    revert kW hW
    generalize ((((((((((wl.setCell _ _).setCell _ _).setCell _ _).setCell _ _).setCell _ _).setCell _ _).setCell _ _).setCell _ _).setCell _ _).setCell _ _).setCell _ _=wf
    intro kW hW
    have c4:=kW.cell
    exact bodyPost_ret (v:=.tuple #[.agg Z4, .int .i64 7]) (by simp [results,Tryz.results38,go_sem,c4,Z4]) rfl ⟨⟨_,_,rfl, .inl ⟨by decide,rfl,HERR.out (by rw [if_pos (.inr (.inr z3))])⟩⟩,hW⟩
   ·have y1:decide ((pm:Int)≤(NN:Int))=false:=decide_eq_false (by omega)
    have y2:decide (pm≤NN)=false:=decide_eq_false z3
    by_cases z4:1024<NN
    ·have y3:decide ((1024:Int)<(NN:Int))=true:=decide_eq_true (by omega)
     have y4:decide (1024<NN)=true:=decide_eq_true z4
     go_wp2_with fail
     have kW:=ZA k4 (.int .u64 0) (.int .i64 0) (.int .i64 0) (.int .i64 0) (.int .i64 0) (.int .i64 0) (.int .i64 0) (.int .i64 0) (.int .i64 0) (.int .i64 0) (.int .i64 0)
     have hW:=Zu (g:=w.heap.size+1+1) hbl (by omega) (.int .u64 0) (.int .i64 0) (.int .i64 0) (.int .i64 0) (.int .i64 0) (.int .i64 0) (.int .i64 0) (.int .i64 0) (.int .i64 0) (.int .i64 0) (.int .i64 0)
     clear c4 f4 c6 f6 p0 k4 kv
     revert kW hW
     generalize ((((((((((wl.setCell _ _).setCell _ _).setCell _ _).setCell _ _).setCell _ _).setCell _ _).setCell _ _).setCell _ _).setCell _ _).setCell _ _).setCell _ _=wf
     intro kW hW
     have c4:=kW.cell
     exact bodyPost_ret (v:=.tuple #[.agg Z4, .int .i64 3]) (by simp [results,Tryz.results38,go_sem,c4,Z4]) rfl ⟨⟨_,_,rfl, .inl ⟨by decide,rfl,HERR.out (by rw [if_neg (by rw [HX1.out,HX2.out];omega),if_pos z4])⟩⟩,hW⟩
    ·have y3:decide ((1024:Int)<(NN:Int))=false:=decide_eq_false (by omega)
     have y4:decide (1024<NN)=false:=decide_eq_false z4
     have HU:=Lib.hid (fun w=>Ja rows.length b w (by have:=HT.out;omega) (by omega) (by omega))
     have HV2:=Lib.hid (fun w=>Ja s b w (by have:=HT.out;have:=HS.out;omega) (by omega) (by omega))
     have u1:(rows.length+b-1) / b≤100000:=Nat.le_trans (Nat.div_le_self _ _) (by omega)
     have u2:(s+b-1) / b≤100000:=Nat.le_trans (Nat.div_le_self _ _) (by have:=HT.out;have:=HS.out;omega)
     revert HU HV2 u1 u2
     obtain ⟨ub,hub⟩:∃ ub,ub=(rows.length+b-1) / b:=⟨_,rfl⟩
     obtain ⟨ua,hua⟩:∃ ua,ua=(s+b-1) / b:=⟨_,rfl⟩
     rw [←hub,←hua]
     have HUB:=Lib.hid hub
     have HUA:=Lib.hid hua
     clear hub hua
     intro HU HV2 u1 u2
     go_wp2_with fail
     refine (HU.out _).mono ?_
     rintro e w5 ⟨rfl,rfl⟩
     go_wp2_with fail
     refine (HV2.out _).mono ?_
     rintro e w6 ⟨rfl,rfl⟩
     go_wp2_with fail
     have k5:=(((k4.far (p:=⟨g,7,none⟩) n2 (.int .i64 (ua:Int))).far (p:=⟨g,8,none⟩) n2 (.int .i64 (ub:Int))).far (p:=⟨g,9,none⟩) n2 (.int .i64 (ub:Int))).far (p:=⟨g,10,none⟩) n2 (.int .i64 (ub:Int))
     have hb5:=(((hbl.setCell (p:=⟨g,7,none⟩) hgw (.int .i64 (ua:Int))).setCell (p:=⟨g,8,none⟩) hgw (.int .i64 (ub:Int))).setCell (p:=⟨g,9,none⟩) hgw (.int .i64 (ub:Int))).setCell (p:=⟨g,10,none⟩) hgw (.int .i64 (ub:Int))
     have kW:=ZA k5 (.int .u64 (p:Int)) (.int .i64 (b:Int)) (.int .i64 (q:Int)) (.int .i64 (k:Int)) (.int .i64 (NN:Int)) (.int .i64 (s:Int)) (.int .i64 (rows.length:Int)) (.int .i64 (ua:Int)) (.int .i64 (ub:Int)) (.int .i64 (ub:Int)) (.int .i64 (ub:Int))
     have hW:=Zu (g:=w.heap.size+1+1) hb5 (by omega) (.int .u64 (p:Int)) (.int .i64 (b:Int)) (.int .i64 (q:Int)) (.int .i64 (k:Int)) (.int .i64 (NN:Int)) (.int .i64 (s:Int)) (.int .i64 (rows.length:Int)) (.int .i64 (ua:Int)) (.int .i64 (ub:Int)) (.int .i64 (ub:Int)) (.int .i64 (ub:Int))
     clear c4 f4 c6 f6 p0 k4 kv k5 hb5
     revert kW hW
     generalize ((((((((((World.setCell _ _ _).setCell _ _).setCell _ _).setCell _ _).setCell _ _).setCell _ _).setCell _ _).setCell _ _).setCell _ _).setCell _ _).setCell _ _=wf
     intro kW hW
     have c4:=kW.cell
     have HL:Y7 ⟨p,b,q,k,NN,s,rows.length,ua,ub⟩:=by
      have hB:=HB.out
      have hQ:=HQ.out
      have hT:=HT.out
      obtain ⟨⟨z,hz⟩,hz2,-⟩:=HN.out
      refine ⟨hT.1,hB.1,hB.2,hQ.1,hQ.2,HK.out,⟨z+2,?_⟩,by show NN≤1024;omega,by have:=HS.out;show s≤65536;omega,hT.2.2.2,u2,u1,HB2.out,?_,?_,?_,?_,HUA.out,HUB.out⟩
      ·show NN=2^(z+2)
       rw [hNN.out,hz,Nat.pow_add,Nat.mul_comm]
      ·show (p-1)%b=0
       rw [←HP.out.1];exact HX1.out
      ·show (p-1)%NN=0
       rw [←HP.out.1];exact HX2.out
      ·show NN<p-1
       rw [←HP.out.1];omega
      ·show 2*k≤NN
       have:=hNN.out
       have:=HK.out
       omega
     have HF2:UO ⟨p,b,q,k,NN,s,rows.length,ua,ub⟩ ⟨p,U,V,rows.length,b,4,q⟩:=by
      have e1:((V:Int)-1-(U:Int)).toNat=s:=by have:=HS.out;omega
      refine ⟨rfl,?_,(HERR.out (by rw [if_neg (by rw [HX1.out,HX2.out];omega),if_neg z4])).symm,by show (0:Int)≤U;omega,by have:=HT.out;show (U:Int)<V;omega⟩
      have e5:NewIn.n ⟨p,U,V,rows.length,b,4,q⟩=NN:=HG.out.1.symm
      unfold G3
      simp only [Int.toNat_natCast,e1]
      rw [e5,HK.out,HUA.out,HUB.out]
     exact bodyPost_ret (v:=.tuple #[.agg (ZH ⟨p,b,q,k,NN,s,rows.length,ua,ub⟩), .int .i64 0]) (by simp [results,Tryz.results38,go_sem,c4,ZH]) rfl ⟨⟨_,_,rfl, .inr ⟨rfl,_,HL,HF2,rfl⟩⟩,hW⟩
  ·have y1:((x2:Int) != 0)=true:=by rw [bne_iff_ne];omega
   have y2:(x2 != 0)=true:=by rw [bne_iff_ne];exact z2
   go_wp2_with fail
   have kW:=ZA k4 (.int .u64 0) (.int .i64 0) (.int .i64 0) (.int .i64 0) (.int .i64 0) (.int .i64 0) (.int .i64 0) (.int .i64 0) (.int .i64 0) (.int .i64 0) (.int .i64 0)
   have hW:=Zu (g:=w.heap.size+1+1) hbl (by omega) (.int .u64 0) (.int .i64 0) (.int .i64 0) (.int .i64 0) (.int .i64 0) (.int .i64 0) (.int .i64 0) (.int .i64 0) (.int .i64 0) (.int .i64 0) (.int .i64 0)
   clear c4 f4 c6 f6 p0 k4 kv
   revert kW hW
   generalize ((((((((((wl.setCell _ _).setCell _ _).setCell _ _).setCell _ _).setCell _ _).setCell _ _).setCell _ _).setCell _ _).setCell _ _).setCell _ _).setCell _ _=wf
   intro kW hW
   have c4:=kW.cell
   exact bodyPost_ret (v:=.tuple #[.agg Z4, .int .i64 7]) (by simp [results,Tryz.results38,go_sem,c4,Z4]) rfl ⟨⟨_,_,rfl, .inl ⟨by decide,rfl,HERR.out (by rw [if_pos (.inr (.inl (by rw [HX2.out];exact z2)))])⟩⟩,hW⟩
 ·have y1:((x1:Int) != 0)=true:=by rw [bne_iff_ne];omega
  have y2:(x1 != 0)=true:=by rw [bne_iff_ne];exact z1
  go_wp2_with fail
  have kW:=ZA k4 (.int .u64 0) (.int .i64 0) (.int .i64 0) (.int .i64 0) (.int .i64 0) (.int .i64 0) (.int .i64 0) (.int .i64 0) (.int .i64 0) (.int .i64 0) (.int .i64 0)
  have hW:=Zu (g:=w.heap.size+1+1) hbl (by omega) (.int .u64 0) (.int .i64 0) (.int .i64 0) (.int .i64 0) (.int .i64 0) (.int .i64 0) (.int .i64 0) (.int .i64 0) (.int .i64 0) (.int .i64 0) (.int .i64 0)
  clear c4 f4 c6 f6 p0 k4 kv
  revert kW hW
  generalize ((((((((((wl.setCell _ _).setCell _ _).setCell _ _).setCell _ _).setCell _ _).setCell _ _).setCell _ _).setCell _ _).setCell _ _).setCell _ _).setCell _ _=wf
  intro kW hW
  have c4:=kW.cell
  exact bodyPost_ret (v:=.tuple #[.agg Z4, .int .i64 7]) (by simp [results,Tryz.results38,go_sem,c4,Z4]) rfl ⟨⟨_,_,rfl, .inl ⟨by decide,rfl,HERR.out (by rw [if_pos (.inl (by rw [HX1.out];exact z1))])⟩⟩,hW⟩
set_option linter.unusedVariables false in
set_option maxRecDepth 100000 in
set_option maxHeartbeats 4000000 in
theorem kK (p U V:Nat) (A:Option Addr) (n c:Nat) (rows:List Yb) (b q:Nat) (w:World) (hr:RSl 3 XI w [.slice A n c] rows) (ht:ZZ p U V rows=true)
  (h0:2≤b) (h1:b≤256) (h2:b &&& (b-1)=0) (h3:1≤q) (h4:q≤64) :
  Calls Tryz.prog 38 (YE p U V A n c b 8 q) w fun e w'=>UC ⟨p,U,V,rows.length,b,8,q⟩ e∧Below w.heap.size w w':=by
 have hok:=Xq ht
 obtain ⟨hp1,hp⟩:=Z5 hok
 have HV:=Lib.hid (fun w' (hb:Below w.heap.size w w')=>Yo p U V A n c rows w' (ZQ ZG _ _ _ _ hb hr) hp)
 rw [ht] at HV
 have hand:=Vw ⟨b,by omega⟩ (by show 2≤b;omega)
 simp only at hand
 rw [h2] at hand
 have htt:U<V∧V≤65536∧rows.length≤16384:=by
  unfold ZZ at ht
  simp only [Bool.and_eq_true,Bool.not_eq_true',decide_eq_false_iff_not] at ht
  omega
 obtain ⟨t1,t2,t3⟩:=htt
 obtain ⟨A',n',c',he,hlen,hnc,hmx,-⟩:=hr
 simp at he
 obtain ⟨rfl,rfl,rfl⟩:=he
 subst hlen
 unfold YE Yz
 have hb0:Below w.heap.size w (((w.alloc (.cells #[.int .u64 (p:Int), .int .i64 (U:Int), .int .i64 (V:Int), .slice A rows.length c] 25)).alloc (.cells #[.int .i64 (b:Int), .int .i64 8, .int .i64 (q:Int)] 27)).alloc (.cells Z4 38)):=(((Below.refl _ w).alloc (Nat.le_refl _) _).alloc (by simp) _).alloc (by simp;omega) _
 unfold Z4 at hb0
 have d1:decide ((b:Int)<2)=false:=decide_eq_false (by omega)
 have d2:decide ((256:Int)<(b:Int))=false:=decide_eq_false (by omega)
 have d4:decide ((q:Int)<1)=false:=decide_eq_false (by omega)
 have d5:decide ((64:Int)<(q:Int))=false:=decide_eq_false (by omega)
 have i1:(1:Int)≤(b:Int):=by omega
 have i2:(0:Int)≤(b:Int)-1:=by omega
 have i3:(b:Int)≤256:=by omega
 have i4:(1:Int)≤(q:Int):=by omega
 have i5:(q:Int)≤64:=by omega
 obtain ⟨k,hk⟩:∃ k,k=b+q:=⟨_,rfl⟩
 have ek:(b:Int)+(q:Int)=(k:Int):=by omega
 obtain ⟨s,hs⟩:∃ s,s=V-1-U:=⟨_,rfl⟩
 have es:(V:Int)-1-(U:Int)=(s:Int):=by omega
 have i6:(V:Int)≤65536:=by omega
 have i7:(1:Int)≤(V:Int):=by omega
 have i8:(k:Int)≤320:=by omega
 have i9:(0:Int)≤(k:Int):=by omega
 obtain ⟨pm,hpm⟩:∃ pm,pm=p-1:=⟨_,rfl⟩
 have ep:IntKind.u64.wrap ((p:Int)-1)=(pm:Int):=by rw [hpm];exact Vi p 1 (by omega) hp
 have HF:=Lib.hid (fun w=>Jo (2*k) w (by omega))
 have ek2:(2:Int)*(k:Int)=((2*k:Nat):Int):=by omega
 obtain ⟨kk,hkk⟩:∃ kk,kk=2*k:=⟨_,rfl⟩
 rw [←hkk] at HF ek2
 have ek3:IntKind.i64.wrap (kk:Int)=(kk:Int):=Y1 _ (by omega) (by omega)
 have j1:kk≤640:=by omega
 have HB:=Lib.hid (And.intro h0 h1)
 have HQ:=Lib.hid (And.intro h3 h4)
 have HK:=Lib.hid hk
 have HS:=Lib.hid hs
 have HT:=Lib.hid (And.intro hok (And.intro t1 (And.intro t2 t3)))
 have gm:(rows.length:Int)≤16384:=by omega
 have HP:=Lib.hid (show pm=p-1∧17≤p from ⟨hpm,hp1⟩)
 have hb256:IntKind.u64.wrap (b:Int)=(b:Int):=Y6 b (by omega)
 have HG:=Lib.hid (fun N NN hN hNN=>V8 (p:=p) (U:=U) (V:=V) (nr:=rows.length) (bw:=8) (N:=N) (NN:=NN) h0 h1 h2 h3 h4 (by omega) hpm hN hNN)
 have HB2:=Lib.hid h2
 have HKK:=Lib.hid (show kk=2*(b+q) by omega)
 clear h0 h1 h2 h3 h4 hk hs hkk hok hp hp1 ht t1 t2 t3 hpm
 go_enter Tryz.func38,Tryz.ntmps38
 go_upto_region 4 with (go_at_call 77;refine (HV.out _ hb0).mono ?_;rintro e w1 ⟨rfl,hb⟩;obtain ⟨k2,k3,k4,hbw⟩:=YP hb;have p0:w1.cell? ⟨w.heap.size+1,0,none⟩=some (.int .i64 (b:Int)):=k3.cell 0;have p1:w1.cell? ⟨w.heap.size+1,1,none⟩=some (.int .i64 8):=k3.cell 1;have p2:w1.cell? ⟨w.heap.size+1,2,none⟩=some (.int .i64 (q:Int)):=k3.cell 2;have c2:=k2.cell;clear hb)
 have k2l:=k2.alloc (.cells #[.int .u64 (p:Int), .int .i64 (b:Int), .int .i64 (q:Int), .int .i64 (k:Int), .int .i64 0, .int .i64 (s:Int), .int .i64 (rows.length:Int), .int .i64 0, .int .i64 0, .int .i64 0, .int .i64 0] 38)
 have k3l:=k3.alloc (.cells #[.int .u64 (p:Int), .int .i64 (b:Int), .int .i64 (q:Int), .int .i64 (k:Int), .int .i64 0, .int .i64 (s:Int), .int .i64 (rows.length:Int), .int .i64 0, .int .i64 0, .int .i64 0, .int .i64 0] 38)
 have k4l:=k4.alloc (.cells #[.int .u64 (p:Int), .int .i64 (b:Int), .int .i64 (q:Int), .int .i64 (k:Int), .int .i64 0, .int .i64 (s:Int), .int .i64 (rows.length:Int), .int .i64 0, .int .i64 0, .int .i64 0, .int .i64 0] 38)
 have k6:=Blk.new w1 38 #[.int .u64 (p:Int), .int .i64 (b:Int), .int .i64 (q:Int), .int .i64 (k:Int), .int .i64 0, .int .i64 (s:Int), .int .i64 (rows.length:Int), .int .i64 0, .int .i64 0, .int .i64 0, .int .i64 0]
 have hbl:=hbw.alloc hbw.size (.cells #[.int .u64 (p:Int), .int .i64 (b:Int), .int .i64 (q:Int), .int .i64 (k:Int), .int .i64 0, .int .i64 (s:Int), .int .i64 (rows.length:Int), .int .i64 0, .int .i64 0, .int .i64 0, .int .i64 0] 38)
 have hg:=k4.lt
 clear p0 p1 p2 k2 k3 k4 hbw c2
 revert k2l k3l k4l k6 hbl
 generalize w1.alloc _=wl
 generalize w1.heap.size=g at *
 intro k2 k3 k4 k6 hbl
 have p0:wl.cell? ⟨w.heap.size,0,none⟩=some (.int .u64 (p:Int)):=k2.cell 0
 have p1:wl.cell? ⟨w.heap.size+1,1,none⟩=some (.int .i64 8):=k3.cell 1
 have c6:=k6.cell
 have f6:=k6.frozen
 have n1:w.heap.size+1≠g:=by omega
 have l1:=k3.lt
 refine Zx (UY g 4) [5,8] [0,1,2,3,4,5,6,7,8] (by kernel_rfl) (by kernel_rfl) ?_
 refine Yt (Zf g 4) ?_
 intro Wc hacc
 repeat (first | (refine Zh (Zf g 4) rfl rfl (fun _ _ _ h=>h) ?_;simp only [Act.put,zLa,zLb,zLc]) | (refine Ze (v:=?_) (Zf g 4) rfl rfl (fun _ _ _ h=>h) ?_ ?_;rotate_left;(· (intro w' hR;(first | have hcells:=YQ ((Zf g 4).trans _ _ _ hacc hR) | skip);have hown:=Xw ((Zf g 4).trans _ _ _ hacc hR) k6;go_simp;try with_reducible rfl));simp only [Act.put,zLa,zLb,zLc]))
 refine ZX (Zf g 4) rfl rfl rfl (fun _=>by go_simp <;> rfl) ((HF.out _).mono ?_)
 rintro e w2 ⟨N,HN,hN2,rfl,rfl⟩
 refine ⟨_,rfl,(Zf g 4).refl _,?_⟩
 replace hacc:=(Zf g 4).trans _ _ _ hacc ((Zf g 4).refl _)
 simp only [Act.put,zLa,zLb,zLc]
 have hN3:N≤1281:=by omega
 obtain ⟨NN,hNN⟩:∃ NN,NN=8*N:=⟨_,rfl⟩
 have eN1:(8:Int)*(N:Int)=(NN:Int):=by omega
 have eN2:IntKind.i64.wrap (NN:Int)=(NN:Int):=Y1 _ (by omega) (by omega)
 rw [HKK.out] at HN
 replace HG:=Lib.hid (HG.out _ _ HN hNN)
 replace HN:=Lib.hid HN
 replace hNN:=Lib.hid hNN
 repeat (first | (refine Zh (Zf g 4) rfl rfl (fun _ _ _ h=>h) ?_;simp only [Act.put,zLa,zLb,zLc]) | (refine Ze (v:=?_) (Zf g 4) rfl rfl (fun _ _ _ h=>h) ?_ ?_;rotate_left;(· (intro w' hR;(first | have hcells:=YQ ((Zf g 4).trans _ _ _ hacc hR) | skip);have hown:=Xw ((Zf g 4).trans _ _ _ hacc hR) k6;go_simp;try with_reducible rfl));simp only [Act.put,zLa,zLb,zLc]))
 have hNN2:NN≤10248:=by omega
 obtain ⟨v,kv⟩:=hacc.2 _ _ k6.drew
 have cv:=kv.cell
 have fv:=kv.frozen
 refine Zs (Zf g 4) rfl rfl rfl ?_
 go_simp
 refine ⟨Xx _ _,?_⟩
 replace hacc:=(Zf g 4).trans _ _ _ hacc (Xx w2 (.int .i64 (NN:Int)))
 replace kv:=kv.set_ 4 (.int .i64 (NN:Int))
 simp at kv
 refine Zt ?_
 have n2:w.heap.size+1+1≠g:=by omega
 have hgw:w.heap.size≤g:=by omega
 have n0:w.heap.size≠g:=by omega
 have hgb:=hacc.1
 have k2':=k2.drew.grown hgb (by simp;omega)
 have k4':=k4.drew.grown hgb (by simp;omega)
 have hbl':=hbl.drew.trans (Ya hgb w.heap.size (by simp;exact hbl.size) (fun x hx=>by injection hx;omega))
 clear k2 k3 k4 hbl hgb hacc p0 p1 c6 f6 cv fv k6 l1 eN2 eN1 ek ek2 ek3 es hand ep i1 i2 d1 d2 d4 d5 j1 hg n0 n1
 revert kv k2' k4' hbl'
 generalize w2.setCell _ _=wl
 intro kv k2 k4 hbl
 have p0:wl.cell? ⟨w.heap.size,0,none⟩=some (.int .u64 (p:Int)):=k2.cell 0
 have c6:=kv.cell
 have f6:=kv.frozen
 have c4:=k4.cell
 have f4:=k4.frozen
 have hN0:0<NN:=by
  obtain ⟨⟨z,hz⟩,-⟩:=HN.out
  have:0<2^z:=Nat.pow_pos (by omega)
  have:=hNN.out
  omega
 have ep:IntKind.u64.wrap ((p:Int)-1)=(pm:Int):=by rw [HP.out.1];exact Vi p 1 (by have:=HP.out.2;omega) (Z5 HT.out.1).2
 have eN:IntKind.u64.wrap (NN:Int)=(NN:Int):=Y6 _ (by omega)
 have q1:(0:Int)<(b:Int):=by have:=HB.out;omega
 have q2:¬((b:Int)=0):=by omega
 have q3:¬(b=0):=by omega
 have q4:(0:Int)<(NN:Int):=by omega
 have q5:¬((NN:Int)=0):=by omega
 have q6:¬(NN=0):=by omega
 have r1:(pm:Int)%(b:Int)=((pm%b:Nat):Int):=rfl
 have r2:(pm:Int)%(NN:Int)=((pm%NN:Nat):Int):=rfl
 have r3:(pm:Int).tmod (b:Int)=((pm%b:Nat):Int):=rfl
 have r4:(pm:Int).tmod (NN:Int)=((pm%NN:Nat):Int):=rfl
 have HERR:Hid (∀ {er:Int},(if pm%b≠0∨pm%NN≠0∨pm≤NN then (7:Int) else if 1024<NN then 3 else 0)=er→er=UH ⟨p,U,V,rows.length,b,8,q⟩):=fun h=>h.symm.trans (HG.out.2).symm
 obtain ⟨x1,hx1⟩:∃ x1,x1=pm%b:=⟨_,rfl⟩
 obtain ⟨x2,hx2⟩:∃ x2,x2=pm%NN:=⟨_,rfl⟩
 rw [←hx1] at r1 r3
 rw [←hx2] at r2 r4
 have HX1:=Lib.hid hx1.symm
 have HX2:=Lib.hid hx2.symm
 clear hx1 hx2
 by_cases z1:x1=0
 ·subst z1
  by_cases z2:x2=0
  ·subst z2
   by_cases z3:pm≤NN
   ·have y1:decide ((pm:Int)≤(NN:Int))=true:=decide_eq_true (by omega)
    have y2:decide (pm≤NN)=true:=decide_eq_true z3
    go_wp2_with fail
    have kW:=ZA k4 (.int .u64 0) (.int .i64 0) (.int .i64 0) (.int .i64 0) (.int .i64 0) (.int .i64 0) (.int .i64 0) (.int .i64 0) (.int .i64 0) (.int .i64 0) (.int .i64 0)
    have hW:=Zu (g:=w.heap.size+1+1) hbl (by omega) (.int .u64 0) (.int .i64 0) (.int .i64 0) (.int .i64 0) (.int .i64 0) (.int .i64 0) (.int .i64 0) (.int .i64 0) (.int .i64 0) (.int .i64 0) (.int .i64 0)
    clear c4 f4 c6 f6 p0 k4 kv
    revert kW hW
    generalize ((((((((((wl.setCell _ _).setCell _ _).setCell _ _).setCell _ _).setCell _ _).setCell _ _).setCell _ _).setCell _ _).setCell _ _).setCell _ _).setCell _ _=wf
    intro kW hW
    have c4:=kW.cell
    exact bodyPost_ret (v:=.tuple #[.agg Z4, .int .i64 7]) (by simp [results,Tryz.results38,go_sem,c4,Z4]) rfl ⟨⟨_,_,rfl, .inl ⟨by decide,rfl,HERR.out (by rw [if_pos (.inr (.inr z3))])⟩⟩,hW⟩
   ·have y1:decide ((pm:Int)≤(NN:Int))=false:=decide_eq_false (by omega)
    have y2:decide (pm≤NN)=false:=decide_eq_false z3
    by_cases z4:1024<NN
    ·have y3:decide ((1024:Int)<(NN:Int))=true:=decide_eq_true (by omega)
     have y4:decide (1024<NN)=true:=decide_eq_true z4
     go_wp2_with fail
     have kW:=ZA k4 (.int .u64 0) (.int .i64 0) (.int .i64 0) (.int .i64 0) (.int .i64 0) (.int .i64 0) (.int .i64 0) (.int .i64 0) (.int .i64 0) (.int .i64 0) (.int .i64 0)
     have hW:=Zu (g:=w.heap.size+1+1) hbl (by omega) (.int .u64 0) (.int .i64 0) (.int .i64 0) (.int .i64 0) (.int .i64 0) (.int .i64 0) (.int .i64 0) (.int .i64 0) (.int .i64 0) (.int .i64 0) (.int .i64 0)
     clear c4 f4 c6 f6 p0 k4 kv
     revert kW hW
     generalize ((((((((((wl.setCell _ _).setCell _ _).setCell _ _).setCell _ _).setCell _ _).setCell _ _).setCell _ _).setCell _ _).setCell _ _).setCell _ _).setCell _ _=wf
     intro kW hW
     have c4:=kW.cell
     exact bodyPost_ret (v:=.tuple #[.agg Z4, .int .i64 3]) (by simp [results,Tryz.results38,go_sem,c4,Z4]) rfl ⟨⟨_,_,rfl, .inl ⟨by decide,rfl,HERR.out (by rw [if_neg (by rw [HX1.out,HX2.out];omega),if_pos z4])⟩⟩,hW⟩
    ·have y3:decide ((1024:Int)<(NN:Int))=false:=decide_eq_false (by omega)
     have y4:decide (1024<NN)=false:=decide_eq_false z4
     have HU:=Lib.hid (fun w=>Ja rows.length b w (by have:=HT.out;omega) (by omega) (by omega))
     have HV2:=Lib.hid (fun w=>Ja s b w (by have:=HT.out;have:=HS.out;omega) (by omega) (by omega))
     have u1:(rows.length+b-1) / b≤100000:=Nat.le_trans (Nat.div_le_self _ _) (by omega)
     have u2:(s+b-1) / b≤100000:=Nat.le_trans (Nat.div_le_self _ _) (by have:=HT.out;have:=HS.out;omega)
     revert HU HV2 u1 u2
     obtain ⟨ub,hub⟩:∃ ub,ub=(rows.length+b-1) / b:=⟨_,rfl⟩
     obtain ⟨ua,hua⟩:∃ ua,ua=(s+b-1) / b:=⟨_,rfl⟩
     rw [←hub,←hua]
     have HUB:=Lib.hid hub
     have HUA:=Lib.hid hua
     clear hub hua
     intro HU HV2 u1 u2
     go_wp2_with fail
     refine (HU.out _).mono ?_
     rintro e w5 ⟨rfl,rfl⟩
     go_wp2_with fail
     refine (HV2.out _).mono ?_
     rintro e w6 ⟨rfl,rfl⟩
     go_wp2_with fail
     have k5:=(((k4.far (p:=⟨g,7,none⟩) n2 (.int .i64 (ua:Int))).far (p:=⟨g,8,none⟩) n2 (.int .i64 (ub:Int))).far (p:=⟨g,9,none⟩) n2 (.int .i64 (ub:Int))).far (p:=⟨g,10,none⟩) n2 (.int .i64 (ub:Int))
     have hb5:=(((hbl.setCell (p:=⟨g,7,none⟩) hgw (.int .i64 (ua:Int))).setCell (p:=⟨g,8,none⟩) hgw (.int .i64 (ub:Int))).setCell (p:=⟨g,9,none⟩) hgw (.int .i64 (ub:Int))).setCell (p:=⟨g,10,none⟩) hgw (.int .i64 (ub:Int))
     have kW:=ZA k5 (.int .u64 (p:Int)) (.int .i64 (b:Int)) (.int .i64 (q:Int)) (.int .i64 (k:Int)) (.int .i64 (NN:Int)) (.int .i64 (s:Int)) (.int .i64 (rows.length:Int)) (.int .i64 (ua:Int)) (.int .i64 (ub:Int)) (.int .i64 (ub:Int)) (.int .i64 (ub:Int))
     have hW:=Zu (g:=w.heap.size+1+1) hb5 (by omega) (.int .u64 (p:Int)) (.int .i64 (b:Int)) (.int .i64 (q:Int)) (.int .i64 (k:Int)) (.int .i64 (NN:Int)) (.int .i64 (s:Int)) (.int .i64 (rows.length:Int)) (.int .i64 (ua:Int)) (.int .i64 (ub:Int)) (.int .i64 (ub:Int)) (.int .i64 (ub:Int))
     clear c4 f4 c6 f6 p0 k4 kv k5 hb5
     revert kW hW
     generalize ((((((((((World.setCell _ _ _).setCell _ _).setCell _ _).setCell _ _).setCell _ _).setCell _ _).setCell _ _).setCell _ _).setCell _ _).setCell _ _).setCell _ _=wf
     intro kW hW
     have c4:=kW.cell
     have HL:Y7 ⟨p,b,q,k,NN,s,rows.length,ua,ub⟩:=by
      have hB:=HB.out
      have hQ:=HQ.out
      have hT:=HT.out
      obtain ⟨⟨z,hz⟩,hz2,-⟩:=HN.out
      refine ⟨hT.1,hB.1,hB.2,hQ.1,hQ.2,HK.out,⟨z+3,?_⟩,by show NN≤1024;omega,by have:=HS.out;show s≤65536;omega,hT.2.2.2,u2,u1,HB2.out,?_,?_,?_,?_,HUA.out,HUB.out⟩
      ·show NN=2^(z+3)
       rw [hNN.out,hz,Nat.pow_add,Nat.mul_comm]
      ·show (p-1)%b=0
       rw [←HP.out.1];exact HX1.out
      ·show (p-1)%NN=0
       rw [←HP.out.1];exact HX2.out
      ·show NN<p-1
       rw [←HP.out.1];omega
      ·show 2*k≤NN
       have:=hNN.out
       have:=HK.out
       omega
     have HF2:UO ⟨p,b,q,k,NN,s,rows.length,ua,ub⟩ ⟨p,U,V,rows.length,b,8,q⟩:=by
      have e1:((V:Int)-1-(U:Int)).toNat=s:=by have:=HS.out;omega
      refine ⟨rfl,?_,(HERR.out (by rw [if_neg (by rw [HX1.out,HX2.out];omega),if_neg z4])).symm,by show (0:Int)≤U;omega,by have:=HT.out;show (U:Int)<V;omega⟩
      have e5:NewIn.n ⟨p,U,V,rows.length,b,8,q⟩=NN:=HG.out.1.symm
      unfold G3
      simp only [Int.toNat_natCast,e1]
      rw [e5,HK.out,HUA.out,HUB.out]
     exact bodyPost_ret (v:=.tuple #[.agg (ZH ⟨p,b,q,k,NN,s,rows.length,ua,ub⟩), .int .i64 0]) (by simp [results,Tryz.results38,go_sem,c4,ZH]) rfl ⟨⟨_,_,rfl, .inr ⟨rfl,_,HL,HF2,rfl⟩⟩,hW⟩
  ·have y1:((x2:Int) != 0)=true:=by rw [bne_iff_ne];omega
   have y2:(x2 != 0)=true:=by rw [bne_iff_ne];exact z2
   go_wp2_with fail
   have kW:=ZA k4 (.int .u64 0) (.int .i64 0) (.int .i64 0) (.int .i64 0) (.int .i64 0) (.int .i64 0) (.int .i64 0) (.int .i64 0) (.int .i64 0) (.int .i64 0) (.int .i64 0)
   have hW:=Zu (g:=w.heap.size+1+1) hbl (by omega) (.int .u64 0) (.int .i64 0) (.int .i64 0) (.int .i64 0) (.int .i64 0) (.int .i64 0) (.int .i64 0) (.int .i64 0) (.int .i64 0) (.int .i64 0) (.int .i64 0)
   clear c4 f4 c6 f6 p0 k4 kv
   revert kW hW
   generalize ((((((((((wl.setCell _ _).setCell _ _).setCell _ _).setCell _ _).setCell _ _).setCell _ _).setCell _ _).setCell _ _).setCell _ _).setCell _ _).setCell _ _=wf
   intro kW hW
   have c4:=kW.cell
   exact bodyPost_ret (v:=.tuple #[.agg Z4, .int .i64 7]) (by simp [results,Tryz.results38,go_sem,c4,Z4]) rfl ⟨⟨_,_,rfl, .inl ⟨by decide,rfl,HERR.out (by rw [if_pos (.inr (.inl (by rw [HX2.out];exact z2)))])⟩⟩,hW⟩
 ·have y1:((x1:Int) != 0)=true:=by rw [bne_iff_ne];omega
  have y2:(x1 != 0)=true:=by rw [bne_iff_ne];exact z1
  go_wp2_with fail
  have kW:=ZA k4 (.int .u64 0) (.int .i64 0) (.int .i64 0) (.int .i64 0) (.int .i64 0) (.int .i64 0) (.int .i64 0) (.int .i64 0) (.int .i64 0) (.int .i64 0) (.int .i64 0)
  have hW:=Zu (g:=w.heap.size+1+1) hbl (by omega) (.int .u64 0) (.int .i64 0) (.int .i64 0) (.int .i64 0) (.int .i64 0) (.int .i64 0) (.int .i64 0) (.int .i64 0) (.int .i64 0) (.int .i64 0) (.int .i64 0)
  clear c4 f4 c6 f6 p0 k4 kv
  revert kW hW
  generalize ((((((((((wl.setCell _ _).setCell _ _).setCell _ _).setCell _ _).setCell _ _).setCell _ _).setCell _ _).setCell _ _).setCell _ _).setCell _ _).setCell _ _=wf
  intro kW hW
  have c4:=kW.cell
  exact bodyPost_ret (v:=.tuple #[.agg Z4, .int .i64 7]) (by simp [results,Tryz.results38,go_sem,c4,Z4]) rfl ⟨⟨_,_,rfl, .inl ⟨by decide,rfl,HERR.out (by rw [if_pos (.inl (by rw [HX1.out];exact z1))])⟩⟩,hW⟩
theorem zDg (p:Nat) (pub vars:Int) (A:Option Addr) (n c:Nat) (rows:List Yb) (bl bw qs:Int) (w:World) (hr:RSl 3 XI w [.slice A n c] rows) (ht:ZZ p pub vars rows=true) :
  Calls Tryz.prog 38 (YE p pub vars A n c bl bw qs) w fun e w'=>UC ⟨p,pub,vars,rows.length,bl,bw,qs⟩ e∧Below w.heap.size w w':=by
 have bad:UH ⟨p,pub,vars,rows.length,bl,bw,qs⟩=1→∀ {e:Ending} {w':World},(e= .returned (.tuple #[.agg Z4, .int .i64 1])∧Below w.heap.size w w')→UC ⟨p,pub,vars,rows.length,bl,bw,qs⟩ e∧Below w.heap.size w w':=fun he _ _ h=>⟨⟨_,_,h.1, .inl ⟨by decide,rfl,he.symm⟩⟩,h.2⟩
 by_cases h0:bl<2
 ·exact (zBh p pub vars A n c rows bl bw qs w hr ht h0).mono fun _ _=>bad (if_pos (.inl h0))
 by_cases h1:256<bl
 ·exact (zCj p pub vars A n c rows bl bw qs w hr ht (by omega) h1).mono fun _ _=>bad (if_pos (.inr (.inl h1)))
 by_cases h2:bl.toNat &&& (bl.toNat-1)=0
 rotate_left
 ·exact (zBu p pub vars A n c rows bl bw qs w hr ht (by omega) (by omega) h2).mono fun _ _=>bad (if_pos (.inr (.inr (.inl h2))))
 by_cases h3:qs<1
 ·exact (zBd p pub vars A n c rows bl bw qs w hr ht (by omega) (by omega) h2 h3).mono fun _ _=>bad (if_pos (.inr (.inr (.inr (.inl h3)))))
 by_cases h4:64<qs
 ·exact (zB1 p pub vars A n c rows bl bw qs w hr ht (by omega) (by omega) h2 (by omega) h4).mono fun _ _=>bad (if_pos (.inr (.inr (.inr (.inr (.inl h4))))))
 by_cases h5:bw≠1∧bw≠2∧bw≠4∧bw≠8
 ·exact (zCe p pub vars A n c rows bl bw qs w hr ht (by omega) (by omega) h2 (by omega) (by omega) h5).mono fun _ _=>bad (if_pos (.inr (.inr (.inr (.inr (.inr h5))))))
 have hpv:0≤pub∧pub<vars:=by
  have h:=ht
  unfold ZZ at h
  simp only [Bool.and_eq_true,Bool.not_eq_true',decide_eq_false_iff_not] at h
  omega
 obtain ⟨U,rfl⟩:=Int.eq_ofNat_of_zero_le hpv.1
 obtain ⟨V,rfl⟩:=Int.eq_ofNat_of_zero_le (show 0≤vars by omega)
 obtain ⟨b,rfl⟩:=Int.eq_ofNat_of_zero_le (show 0≤bl by omega)
 obtain ⟨q,rfl⟩:=Int.eq_ofNat_of_zero_le (show 0≤qs by omega)
 rw [Int.toNat_natCast] at h2
 have h6:bw=1∨bw=2∨bw=4∨bw=8:=by omega
 rcases h6 with rfl | rfl | rfl | rfl
 ·exact kN p U V A n c rows b q w hr ht (by omega) (by omega) h2 (by omega) (by omega)
 ·exact kL p U V A n c rows b q w hr ht (by omega) (by omega) h2 (by omega) (by omega)
 ·exact jN p U V A n c rows b q w hr ht (by omega) (by omega) h2 (by omega) (by omega)
 ·exact kK p U V A n c rows b q w hr ht (by omega) (by omega) h2 (by omega) (by omega)
theorem xm {x:NewIn} {e:Ending} (h:UC x e):∃ y0 y1 y2 y3 y4 y5 y6 y7 y8 y9 y10 er:Int,e= .returned (.tuple #[.agg #[.int .u64 y0, .int .i64 y1, .int .i64 y2, .int .i64 y3, .int .i64 y4, .int .i64 y5, .int .i64 y6, .int .i64 y7, .int .i64 y8, .int .i64 y9, .int .i64 y10], .int .i64 er])∧(er=0→∃ L,Y7 L∧UO L x∧#[.int .u64 y0, .int .i64 y1, .int .i64 y2, .int .i64 y3, .int .i64 y4, .int .i64 y5, .int .i64 y6, .int .i64 y7, .int .i64 y8, .int .i64 y9, .int .i64 y10]=ZH L):=by
 obtain ⟨lcs,er,he,h | h⟩:=h
 ·obtain ⟨h1,rfl,-⟩:=h
  exact ⟨_,_,_,_,_,_,_,_,_,_,_,er,he,fun h=>absurd h h1⟩
 ·obtain ⟨h1,L,h2,h3,rfl⟩:=h
  exact ⟨_,_,_,_,_,_,_,_,_,_,_,er,he,fun _=>⟨L,h2,h3,rfl⟩⟩
def KA (x:NewIn) (e:Ending):Prop:=∃ (y0 y1 y2 y3 y4 y5 y6 y7 y8 y9 y10:Int) (b:Bool),e= .returned (.tuple #[.agg #[.int .u64 y0, .int .i64 y1, .int .i64 y2, .int .i64 y3, .int .i64 y4, .int .i64 y5, .int .i64 y6, .int .i64 y7, .int .i64 y8, .int .i64 y9, .int .i64 y10], .bool b])∧(b=true→∃ L,Y7 L∧UO L x∧#[.int .u64 y0, .int .i64 y1, .int .i64 y2, .int .i64 y3, .int .i64 y4, .int .i64 y5, .int .i64 y6, .int .i64 y7, .int .i64 y8, .int .i64 y9, .int .i64 y10]=ZH L)
def xk (p:Nat) (pub vars:Int) (rows:Value) (bl bw qs:Int) (ws:Value):Array Value:=#[.int .u64 (p:Int), .int .i64 pub, .int .i64 vars,rows, .int .i64 bl, .int .i64 bw, .int .i64 qs,ws]
theorem Blk.cells' {w:World} {g:Nat} {t:TypeId} {cs:Array Value} (h:Blk w g t cs):(∀ i,w.cell? ⟨g,i,none⟩=cs[i]?)∧(∀ i,w.frozen? ⟨g,i,none⟩=false):=⟨h.cell,h.frozen⟩
set_option linter.unusedVariables false in
set_option maxRecDepth 100000 in
set_option maxHeartbeats 4000000 in
theorem kG (lim:Int) (p:Nat) (pub vars:Int) (A B:Option Addr) (n c m d:Nat) (rows:List Yb) (ws:List Nat) (bl bw qs:Int) (w:World) (hr:RSl 3 XI w [.slice A n c] rows) (hw:RWd w [.slice B m d] ws) (hp:p<18446744073709551616) :
  Calls Tryz.prog 48 #[.agg (xk p pub vars (.slice A n c) bl bw qs (.slice B m d)), .int .i64 lim] w fun e w'=>(KA ⟨p,pub,vars,rows.length,bl,bw,qs⟩ e∧(∀ v,e= .returned (.tuple #[v, .bool true])→ZZ p pub vars rows=true∧V5 p vars ws=true∧Ki rows∧(rows.length:Int)≤lim))∧Below w.heap.size w w':=by
 have HV:=Lib.hid (fun w' (hb:Below w.heap.size w w')=>Yo p pub vars A n c rows w' (ZQ ZG _ _ _ _ hb hr) hp)
 have HA:=Lib.hid (fun w' (hb:Below w.heap.size w w')=>UU p pub vars (.slice A n c) B m d ws w' (Zl _ _ _ _ hb hw) hp)
 have HS:=Lib.hid (fun w' (hb:Below w.heap.size w w')=>zC6 p pub vars A n c rows w' (ZQ ZG _ _ _ _ hb hr))
 have HN:=Lib.hid (fun ht w' (hb:Below w.heap.size w w')=>zDg p pub vars A n c rows bl bw qs w' (ZQ ZG _ _ _ _ hb hr) ht)
 obtain ⟨A',n',c',he,hlen,hnc,hmx,-⟩:=hr
 simp at he
 obtain ⟨rfl,rfl,rfl⟩:=he
 subst hlen
 have gm:(rows.length:Int)≤9223372036854775807:=by
  simp [maxLen] at hmx
  omega
 unfold xk
 have hb0:Below w.heap.size w ((w.alloc (.cells #[.int .u64 (p:Int), .int .i64 pub, .int .i64 vars, .slice A rows.length c, .int .i64 bl, .int .i64 bw, .int .i64 qs, .slice B m d] 30)).alloc (.cells #[.int .u64 0, .int .i64 0, .int .i64 0, .int .i64 0, .int .i64 0, .int .i64 0, .int .i64 0, .int .i64 0, .int .i64 0, .int .i64 0, .int .i64 0] 38)):=((Below.refl _ w).alloc (Nat.le_refl _) _).alloc (by simp) _
 by_cases z1:lim<(rows.length:Int)
 ·have d1:decide (lim<(rows.length:Int))=true:=decide_eq_true z1
  go_enter Tryz.func48,Tryz.ntmps48
  go_wp2_with fail
  refine bodyPost_ret (v:=.tuple #[.agg #[.int .u64 0, .int .i64 0, .int .i64 0, .int .i64 0, .int .i64 0, .int .i64 0, .int .i64 0, .int .i64 0, .int .i64 0, .int .i64 0, .int .i64 0], .bool false]) (by simp [results,Tryz.results48,go_sem]) rfl ⟨⟨⟨_,_,_,_,_,_,_,_,_,_,_,_,rfl,fun h=>by cases h⟩,fun v h=>by simp at h⟩,hb0⟩
 ·have d1:decide (lim<(rows.length:Int))=false:=decide_eq_false z1
  have HZ1:=Lib.hid (show (rows.length:Int)≤lim by omega)
  clear z1
  go_enter Tryz.func48,Tryz.ntmps48
  go_wp2_with fail
  refine (HS.out _ hb0).mono ?_
  rintro e w1 ⟨⟨b1,rfl,hsm⟩,hb⟩
  have HSM:=Lib.hid hsm
  clear hsm
  obtain ⟨k3,k4,hbw⟩:=Vc hb
  obtain ⟨c3,f3⟩:=k3.cells'
  obtain ⟨c4,f4⟩:=k4.cells'
  clear hb
  cases b1
  ·go_wp2_with fail
   have kW:=ZA k4 (.int .u64 0) (.int .i64 0) (.int .i64 0) (.int .i64 0) (.int .i64 0) (.int .i64 0) (.int .i64 0) (.int .i64 0) (.int .i64 0) (.int .i64 0) (.int .i64 0)
   have hW:=Zu (g:=w.heap.size+1) hbw (by omega) (.int .u64 0) (.int .i64 0) (.int .i64 0) (.int .i64 0) (.int .i64 0) (.int .i64 0) (.int .i64 0) (.int .i64 0) (.int .i64 0) (.int .i64 0) (.int .i64 0)
   revert kW hW
   generalize ((((((((((World.setCell _ _ _).setCell _ _).setCell _ _).setCell _ _).setCell _ _).setCell _ _).setCell _ _).setCell _ _).setCell _ _).setCell _ _).setCell _ _=wf
   intro kW hW
   have c4':=kW.cell
   exact bodyPost_ret (v:=.tuple #[.agg #[.int .u64 0, .int .i64 0, .int .i64 0, .int .i64 0, .int .i64 0, .int .i64 0, .int .i64 0, .int .i64 0, .int .i64 0, .int .i64 0, .int .i64 0], .bool false]) (by simp [results,Tryz.results48,go_sem,c4']) rfl ⟨⟨⟨_,_,_,_,_,_,_,_,_,_,_,_,rfl,fun h=>by cases h⟩,fun v h=>by simp at h⟩,hW⟩
  go_wp2_with fail
  refine (HV.out _ hbw).mono ?_
  rintro e w2 ⟨rfl,hb2⟩
  cases ht:ZZ p pub vars rows
  ·replace k4:=k4.below hb2 k4.lt
   replace hbw:=Za hbw hb2
   clear c3 f3 c4 f4
   obtain ⟨c4,f4⟩:=k4.cells'
   go_wp2_with fail
   have kW:=ZA k4 (.int .u64 0) (.int .i64 0) (.int .i64 0) (.int .i64 0) (.int .i64 0) (.int .i64 0) (.int .i64 0) (.int .i64 0) (.int .i64 0) (.int .i64 0) (.int .i64 0)
   have hW:=Zu (g:=w.heap.size+1) hbw (by omega) (.int .u64 0) (.int .i64 0) (.int .i64 0) (.int .i64 0) (.int .i64 0) (.int .i64 0) (.int .i64 0) (.int .i64 0) (.int .i64 0) (.int .i64 0) (.int .i64 0)
   revert kW hW
   generalize ((((((((((World.setCell _ _ _).setCell _ _).setCell _ _).setCell _ _).setCell _ _).setCell _ _).setCell _ _).setCell _ _).setCell _ _).setCell _ _).setCell _ _=wf
   intro kW hW
   have c4':=kW.cell
   exact bodyPost_ret (v:=.tuple #[.agg #[.int .u64 0, .int .i64 0, .int .i64 0, .int .i64 0, .int .i64 0, .int .i64 0, .int .i64 0, .int .i64 0, .int .i64 0, .int .i64 0, .int .i64 0], .bool false]) (by simp [results,Tryz.results48,go_sem,c4']) rfl ⟨⟨⟨_,_,_,_,_,_,_,_,_,_,_,_,rfl,fun h=>by cases h⟩,fun v h=>by simp at h⟩,hW⟩
  replace k3:=k3.below hb2 k3.lt
  replace k4:=k4.below hb2 k4.lt
  replace hbw:=Za hbw hb2
  clear c3 f3 c4 f4 hb2
  obtain ⟨c3,f3⟩:=k3.cells'
  obtain ⟨c4,f4⟩:=k4.cells'
  have HT:=Lib.hid ht
  clear ht
  go_wp2_with fail
  refine (HA.out _ hbw).mono ?_
  rintro e w3 ⟨rfl,hb3⟩
  cases ha:V5 p vars ws
  ·replace k4:=k4.below hb3 k4.lt
   replace hbw:=Za hbw hb3
   clear c3 f3 c4 f4
   obtain ⟨c4,f4⟩:=k4.cells'
   go_wp2_with fail
   have kW:=ZA k4 (.int .u64 0) (.int .i64 0) (.int .i64 0) (.int .i64 0) (.int .i64 0) (.int .i64 0) (.int .i64 0) (.int .i64 0) (.int .i64 0) (.int .i64 0) (.int .i64 0)
   have hW:=Zu (g:=w.heap.size+1) hbw (by omega) (.int .u64 0) (.int .i64 0) (.int .i64 0) (.int .i64 0) (.int .i64 0) (.int .i64 0) (.int .i64 0) (.int .i64 0) (.int .i64 0) (.int .i64 0) (.int .i64 0)
   revert kW hW
   generalize ((((((((((World.setCell _ _ _).setCell _ _).setCell _ _).setCell _ _).setCell _ _).setCell _ _).setCell _ _).setCell _ _).setCell _ _).setCell _ _).setCell _ _=wf
   intro kW hW
   have c4':=kW.cell
   exact bodyPost_ret (v:=.tuple #[.agg #[.int .u64 0, .int .i64 0, .int .i64 0, .int .i64 0, .int .i64 0, .int .i64 0, .int .i64 0, .int .i64 0, .int .i64 0, .int .i64 0, .int .i64 0], .bool false]) (by simp [results,Tryz.results48,go_sem,c4']) rfl ⟨⟨⟨_,_,_,_,_,_,_,_,_,_,_,_,rfl,fun h=>by cases h⟩,fun v h=>by simp at h⟩,hW⟩
  replace k3:=k3.below hb3 k3.lt
  replace k4:=k4.below hb3 k4.lt
  replace hbw:=Za hbw hb3
  clear c3 f3 c4 f4 hb3
  obtain ⟨c3,f3⟩:=k3.cells'
  obtain ⟨c4,f4⟩:=k4.cells'
  have HAs:=Lib.hid ha
  clear ha
  go_wp2_with fail
  refine (HN.out HT.out _ hbw).mono ?_
  rintro e w4 ⟨hpost,hb4⟩
  obtain ⟨y0,y1,y2,y3,y4,y5,y6,y7,y8,y9,y10,er,rfl,hL⟩:=xm hpost
  have HL:=Lib.hid hL
  clear hL hpost
  replace k4:=k4.below hb4 k4.lt
  replace hbw:=Za hbw hb4
  clear c3 f3 c4 f4 hb4 k3
  obtain ⟨c4,f4⟩:=k4.cells'
  have l4:=k4.lt
  by_cases h0:er=0
  ·have HE:=Lib.hid (show KA ⟨p,pub,vars,rows.length,bl,bw,qs⟩ (.returned (.tuple #[.agg #[.int .u64 y0, .int .i64 y1, .int .i64 y2, .int .i64 y3, .int .i64 y4, .int .i64 y5, .int .i64 y6, .int .i64 y7, .int .i64 y8, .int .i64 y9, .int .i64 y10], .bool true])) from ⟨_,_,_,_,_,_,_,_,_,_,_,_,rfl,fun _=>HL.out h0⟩)
   clear HL
   subst h0
   go_wp2_with fail
   have kW0:=ZA k4 (.int .u64 y0) (.int .i64 y1) (.int .i64 y2) (.int .i64 y3) (.int .i64 y4) (.int .i64 y5) (.int .i64 y6) (.int .i64 y7) (.int .i64 y8) (.int .i64 y9) (.int .i64 y10)
   have hW0:=Zu (g:=w.heap.size+1) hbw (by omega) (.int .u64 y0) (.int .i64 y1) (.int .i64 y2) (.int .i64 y3) (.int .i64 y4) (.int .i64 y5) (.int .i64 y6) (.int .i64 y7) (.int .i64 y8) (.int .i64 y9) (.int .i64 y10)
   revert kW0 hW0
   generalize ((((((((((w4.setCell _ _).setCell _ _).setCell _ _).setCell _ _).setCell _ _).setCell _ _).setCell _ _).setCell _ _).setCell _ _).setCell _ _).setCell _ _=wf
   intro kW0 hW0
   have kW:=kW0.alloc (.cells #[.int .u64 y0, .int .i64 y1, .int .i64 y2, .int .i64 y3, .int .i64 y4, .int .i64 y5, .int .i64 y6, .int .i64 y7, .int .i64 y8, .int .i64 y9, .int .i64 y10] 38)
   have hW:=hW0.alloc hW0.size (.cells #[.int .u64 y0, .int .i64 y1, .int .i64 y2, .int .i64 y3, .int .i64 y4, .int .i64 y5, .int .i64 y6, .int .i64 y7, .int .i64 y8, .int .i64 y9, .int .i64 y10] 38)
   have c4':=kW.cell
   exact bodyPost_ret (v:=.tuple #[.agg #[.int .u64 y0, .int .i64 y1, .int .i64 y2, .int .i64 y3, .int .i64 y4, .int .i64 y5, .int .i64 y6, .int .i64 y7, .int .i64 y8, .int .i64 y9, .int .i64 y10], .bool true]) (by simp [results,Tryz.results48,go_sem,c4']) rfl ⟨⟨HE.out,fun _ _=>⟨HT.out,HAs.out,HSM.out (by first | trivial | rfl),HZ1.out⟩⟩,hW⟩
  ·have HE:=Lib.hid (show KA ⟨p,pub,vars,rows.length,bl,bw,qs⟩ (.returned (.tuple #[.agg #[.int .u64 y0, .int .i64 y1, .int .i64 y2, .int .i64 y3, .int .i64 y4, .int .i64 y5, .int .i64 y6, .int .i64 y7, .int .i64 y8, .int .i64 y9, .int .i64 y10], .bool false])) from ⟨_,_,_,_,_,_,_,_,_,_,_,_,rfl,fun h=>by cases h⟩)
   clear HL
   have g0:(er == 0)=false:=by rw [beq_eq_false_iff_ne];exact h0
   go_wp2_with fail
   have kW0:=ZA k4 (.int .u64 y0) (.int .i64 y1) (.int .i64 y2) (.int .i64 y3) (.int .i64 y4) (.int .i64 y5) (.int .i64 y6) (.int .i64 y7) (.int .i64 y8) (.int .i64 y9) (.int .i64 y10)
   have hW0:=Zu (g:=w.heap.size+1) hbw (by omega) (.int .u64 y0) (.int .i64 y1) (.int .i64 y2) (.int .i64 y3) (.int .i64 y4) (.int .i64 y5) (.int .i64 y6) (.int .i64 y7) (.int .i64 y8) (.int .i64 y9) (.int .i64 y10)
   revert kW0 hW0
   generalize ((((((((((w4.setCell _ _).setCell _ _).setCell _ _).setCell _ _).setCell _ _).setCell _ _).setCell _ _).setCell _ _).setCell _ _).setCell _ _).setCell _ _=wf
   intro kW0 hW0
   have kW:=kW0.alloc (.cells #[.int .u64 y0, .int .i64 y1, .int .i64 y2, .int .i64 y3, .int .i64 y4, .int .i64 y5, .int .i64 y6, .int .i64 y7, .int .i64 y8, .int .i64 y9, .int .i64 y10] 38)
   have hW:=hW0.alloc hW0.size (.cells #[.int .u64 y0, .int .i64 y1, .int .i64 y2, .int .i64 y3, .int .i64 y4, .int .i64 y5, .int .i64 y6, .int .i64 y7, .int .i64 y8, .int .i64 y9, .int .i64 y10] 38)
   have c4':=kW.cell
   exact bodyPost_ret (v:=.tuple #[.agg #[.int .u64 y0, .int .i64 y1, .int .i64 y2, .int .i64 y3, .int .i64 y4, .int .i64 y5, .int .i64 y6, .int .i64 y7, .int .i64 y8, .int .i64 y9, .int .i64 y10], .bool false]) (by simp [results,Tryz.results48,go_sem,c4']) rfl ⟨⟨HE.out,fun v h=>by simp at h⟩,hW⟩
theorem kD {g:Nat} (w:World) (x0 x1 x2 x3 x4 x5 x6 x7 x8 x9 x10:Value) :
  Vg g w (((((((((((w.setCell ⟨g,0,none⟩ x0).setCell ⟨g,1,none⟩ x1).setCell ⟨g,2,none⟩ x2).setCell ⟨g,3,none⟩ x3).setCell ⟨g,4,none⟩ x4).setCell ⟨g,5,none⟩ x5).setCell ⟨g,6,none⟩ x6).setCell ⟨g,7,none⟩ x7).setCell ⟨g,8,none⟩ x8).setCell ⟨g,9,none⟩ x9).setCell ⟨g,10,none⟩ x10):=by
 unfold Vg
 iterate 11 refine ZF ?_ (.inl rfl) _
 exact ZO w _
set_option maxRecDepth 100000 in
theorem G9 (y0 y1 y2 y3 y4 y5 y6:Int) (a b c d:Nat) (w:World) (ha:a≤100000) (hb:b≤100000) (hc:c≤100000) (hd:d≤100000) :
  Calls Tryz.prog 49 #[.agg #[.int .u64 y0, .int .i64 y1, .int .i64 y2, .int .i64 y3, .int .i64 y4, .int .i64 y5, .int .i64 y6, .int .i64 (a:Int), .int .i64 (b:Int), .int .i64 (c:Int), .int .i64 (d:Int)]] w fun e w'=>e= .returned (.int .i64 ((a+b+c+d:Nat):Int))∧Below w.heap.size w w':=by
 have i1:(a:Int)≤100000:=by omega
 have i2:(b:Int)≤100000:=by omega
 have i3:(c:Int)≤100000:=by omega
 have i4:(d:Int)≤100000:=by omega
 go_enter Tryz.func49,Tryz.ntmps49
 go_wp2_with fail
 go_ret
 exact ⟨by simp,(Below.refl _ _).alloc (Nat.le_refl _) _⟩
set_option maxRecDepth 100000 in
theorem GM (y0 y1 y2 y3 y4 y5 y6:Int) (a b c d:Nat) (w:World) (ha:a≤100000) (hb:b≤100000) (hc:c≤100000) (hd:d≤100000) :
  Calls Tryz.prog 68 #[.agg #[.int .u64 y0, .int .i64 y1, .int .i64 y2, .int .i64 y3, .int .i64 y4, .int .i64 y5, .int .i64 y6, .int .i64 (a:Int), .int .i64 (b:Int), .int .i64 (c:Int), .int .i64 (d:Int)]] w fun e w'=>e= .returned (.int .i64 ((a+b+c+d:Nat):Int))∧Below w.heap.size w w':=by
 have i1:(a:Int)≤100000:=by omega
 have i2:(b:Int)≤100000:=by omega
 have i3:(c:Int)≤100000:=by omega
 have i4:(d:Int)≤100000:=by omega
 go_enter Tryz.func68,Tryz.ntmps68
 go_wp2_with fail
 go_ret
 exact ⟨by simp,(Below.refl _ _).alloc (Nat.le_refl _) _⟩
def Vs (x:NewIn) (e:Ending):Prop:=∃ (y0 y1 y2 y3 y4 y5 y6 y7 y8 y9 y10:Int) (b s:Bool),e= .returned (.tuple #[.agg #[.int .u64 y0, .int .i64 y1, .int .i64 y2, .int .i64 y3, .int .i64 y4, .int .i64 y5, .int .i64 y6, .int .i64 y7, .int .i64 y8, .int .i64 y9, .int .i64 y10], .bool b, .bool s])∧(b=true→∃ L,Y7 L∧UO L x∧L.n≤64∧L.a+3*L.b≤40∧#[.int .u64 y0, .int .i64 y1, .int .i64 y2, .int .i64 y3, .int .i64 y4, .int .i64 y5, .int .i64 y6, .int .i64 y7, .int .i64 y8, .int .i64 y9, .int .i64 y10]=ZH L)
theorem zR {y0 y1 y2 y3 y4 y5 y6 y7 y8 y9 y10:Int} {L:YO} (h:#[.int .u64 y0, .int .i64 y1, .int .i64 y2, .int .i64 y3, .int .i64 y4, .int .i64 y5, .int .i64 y6, .int .i64 y7, .int .i64 y8, .int .i64 y9, .int .i64 y10]=ZH L):y0=L.p∧y1=L.block∧y2=L.queries∧y3=L.k∧y4=L.n∧y5=L.secret∧y6=L.rows∧y7=L.a∧y8=L.b∧y9=L.b∧y10=L.b:=by
 simpa [ZH] using h
structure GJ (p:Nat) (pub vars:Int) (rows:List Yb) (ws:List Nat) (s:Bool):Prop where
 tab:ZZ p pub vars rows=true
 asg:V5 p vars ws=true
 small:Ki rows
 few:rows.length≤12
 sat:kZ p rows ws=s
set_option linter.unusedVariables false in
set_option maxRecDepth 100000 in
set_option maxHeartbeats 4000000 in
theorem zAg (p:Nat) (pub vars:Int) (A B:Option Addr) (n c m d:Nat) (rows:List Yb) (ws:List Nat) (bl bw qs:Int) (coin seed:Int) (real:Bool) (w:World) (hr:RSl 3 XI w [.slice A n c] rows) (hw:RWd w [.slice B m d] ws) (hp:p<18446744073709551616) :
  Calls Tryz.prog 12 #[.agg #[.int .u64 (p:Int), .int .i64 pub, .int .i64 vars, .slice A n c, .int .i64 bl, .int .i64 bw, .int .i64 qs, .slice B m d, .int .u64 coin, .bool real, .int .u64 seed]] w fun e w'=>(Vs ⟨p,pub,vars,rows.length,bl,bw,qs⟩ e∧(∀ v s,e= .returned (.tuple #[v, .bool true, .bool s])→GJ p pub vars rows ws s))∧Below w.heap.size w w':=by
 have HR:=Lib.hid (fun w' (hb:Below w.heap.size w w')=>kG 12 p pub vars A B n c m d rows ws bl bw qs w' (ZQ ZG _ _ _ _ hb hr) (Zl _ _ _ _ hb hw) hp)
 have HS:=Lib.hid (fun ht ha w' (hb:Below w.heap.size w w')=>GZ p pub vars A B n c m d rows ws w' (ZQ ZG _ _ _ _ hb hr) (Zl _ _ _ _ hb hw) ht ha)
 obtain ⟨A',n',c',he,-⟩:=hr
 simp at he
 obtain ⟨rfl,rfl,rfl⟩:=he
 have hb0:Below w.heap.size w ((w.alloc (.cells #[.int .u64 (p:Int), .int .i64 pub, .int .i64 vars, .slice A n c, .int .i64 bl, .int .i64 bw, .int .i64 qs, .slice B m d, .int .u64 coin, .bool real, .int .u64 seed] 32)).alloc (.cells #[.int .u64 0, .int .i64 0, .int .i64 0, .int .i64 0, .int .i64 0, .int .i64 0, .int .i64 0, .int .i64 0, .int .i64 0, .int .i64 0, .int .i64 0] 38)):=((Below.refl _ w).alloc (Nat.le_refl _) _).alloc (by simp) _
 go_enter Tryz.func12,Tryz.ntmps12
 go_wp2_with fail
 refine (HR.out _ hb0).mono ?_
 rintro e w1 ⟨⟨hpost,htt⟩,hb⟩
 obtain ⟨k1,k2,hbw⟩:=Vc hb
 have l2:=k2.lt
 clear hb
 obtain ⟨y0,y1,y2,y3,y4,y5,y6,y7,y8,y9,y10,b,rfl,hL⟩:=hpost
 cases b
 ·have HE:=Lib.hid (show Vs ⟨p,pub,vars,rows.length,bl,bw,qs⟩ (.returned (.tuple #[.agg #[.int .u64 y0, .int .i64 y1, .int .i64 y2, .int .i64 y3, .int .i64 y4, .int .i64 y5, .int .i64 y6, .int .i64 y7, .int .i64 y8, .int .i64 y9, .int .i64 y10], .bool false, .bool false])) from ⟨_,_,_,_,_,_,_,_,_,_,_,_,_,rfl,fun h=>by cases h⟩)
  clear hL htt
  obtain ⟨c2,f2⟩:=k2.cells'
  go_wp2_with fail
  have kW0:=ZA k2 (.int .u64 y0) (.int .i64 y1) (.int .i64 y2) (.int .i64 y3) (.int .i64 y4) (.int .i64 y5) (.int .i64 y6) (.int .i64 y7) (.int .i64 y8) (.int .i64 y9) (.int .i64 y10)
  have hW0:=Zu (g:=w.heap.size+1) hbw (by omega) (.int .u64 y0) (.int .i64 y1) (.int .i64 y2) (.int .i64 y3) (.int .i64 y4) (.int .i64 y5) (.int .i64 y6) (.int .i64 y7) (.int .i64 y8) (.int .i64 y9) (.int .i64 y10)
  revert kW0 hW0
  generalize ((((((((((World.setCell _ _ _).setCell _ _).setCell _ _).setCell _ _).setCell _ _).setCell _ _).setCell _ _).setCell _ _).setCell _ _).setCell _ _).setCell _ _=wf
  intro kW0 hW0
  have kW:=kW0.alloc (.cells #[.int .u64 y0, .int .i64 y1, .int .i64 y2, .int .i64 y3, .int .i64 y4, .int .i64 y5, .int .i64 y6, .int .i64 y7, .int .i64 y8, .int .i64 y9, .int .i64 y10] 38)
  have hW:=hW0.alloc hW0.size (.cells #[.int .u64 y0, .int .i64 y1, .int .i64 y2, .int .i64 y3, .int .i64 y4, .int .i64 y5, .int .i64 y6, .int .i64 y7, .int .i64 y8, .int .i64 y9, .int .i64 y10] 38)
  have c4':=kW.cell
  exact bodyPost_ret (v:=.tuple #[.agg #[.int .u64 y0, .int .i64 y1, .int .i64 y2, .int .i64 y3, .int .i64 y4, .int .i64 y5, .int .i64 y6, .int .i64 y7, .int .i64 y8, .int .i64 y9, .int .i64 y10], .bool false, .bool false]) (by simp [results,Tryz.results12,go_sem,c4']) rfl ⟨⟨HE.out,fun v s h=>by simp at h⟩,hW⟩
 ·obtain ⟨L,hok,hLp,hLL⟩:=hL rfl
  obtain ⟨rfl,rfl,rfl,rfl,rfl,rfl,rfl,rfl,rfl,rfl,rfl⟩:=zR hLL
  have HT:=Lib.hid (htt _ rfl)
  have HO:=Lib.hid hok
  have HLp:=Lib.hid hLp
  have na:=hok.a
  have nb:=hok.b
  clear hL htt hok hLp hLL
  obtain ⟨c1,f1⟩:=k1.cells'
  obtain ⟨c2,f2⟩:=k2.cells'
  by_cases z1:64<L.n
  ·have HE:=Lib.hid (show Vs ⟨p,pub,vars,rows.length,bl,bw,qs⟩ (.returned (.tuple #[.agg #[.int .u64 (L.p:Int), .int .i64 (L.block:Int), .int .i64 (L.queries:Int), .int .i64 (L.k:Int), .int .i64 (L.n:Int), .int .i64 (L.secret:Int), .int .i64 (L.rows:Int), .int .i64 (L.a:Int), .int .i64 (L.b:Int), .int .i64 (L.b:Int), .int .i64 (L.b:Int)], .bool false, .bool false])) from ⟨_,_,_,_,_,_,_,_,_,_,_,_,_,rfl,fun h=>by cases h⟩)
   have d1:decide ((64:Int)<(L.n:Int))=true:=decide_eq_true (by omega)
   have d2:decide (64<L.n)=true:=decide_eq_true z1
   go_wp2_with fail
   have kW0:=ZA k2 (.int .u64 (L.p:Int)) (.int .i64 (L.block:Int)) (.int .i64 (L.queries:Int)) (.int .i64 (L.k:Int)) (.int .i64 (L.n:Int)) (.int .i64 (L.secret:Int)) (.int .i64 (L.rows:Int)) (.int .i64 (L.a:Int)) (.int .i64 (L.b:Int)) (.int .i64 (L.b:Int)) (.int .i64 (L.b:Int))
   have hW0:=Zu (g:=w.heap.size+1) hbw (by omega) (.int .u64 (L.p:Int)) (.int .i64 (L.block:Int)) (.int .i64 (L.queries:Int)) (.int .i64 (L.k:Int)) (.int .i64 (L.n:Int)) (.int .i64 (L.secret:Int)) (.int .i64 (L.rows:Int)) (.int .i64 (L.a:Int)) (.int .i64 (L.b:Int)) (.int .i64 (L.b:Int)) (.int .i64 (L.b:Int))
   revert kW0 hW0
   generalize ((((((((((World.setCell _ _ _).setCell _ _).setCell _ _).setCell _ _).setCell _ _).setCell _ _).setCell _ _).setCell _ _).setCell _ _).setCell _ _).setCell _ _=wf
   intro kW0 hW0
   have kW:=kW0.alloc (.cells #[.int .u64 (L.p:Int), .int .i64 (L.block:Int), .int .i64 (L.queries:Int), .int .i64 (L.k:Int), .int .i64 (L.n:Int), .int .i64 (L.secret:Int), .int .i64 (L.rows:Int), .int .i64 (L.a:Int), .int .i64 (L.b:Int), .int .i64 (L.b:Int), .int .i64 (L.b:Int)] 38)
   have hW:=hW0.alloc hW0.size (.cells #[.int .u64 (L.p:Int), .int .i64 (L.block:Int), .int .i64 (L.queries:Int), .int .i64 (L.k:Int), .int .i64 (L.n:Int), .int .i64 (L.secret:Int), .int .i64 (L.rows:Int), .int .i64 (L.a:Int), .int .i64 (L.b:Int), .int .i64 (L.b:Int), .int .i64 (L.b:Int)] 38)
   have c4':=kW.cell
   exact bodyPost_ret (v:=.tuple #[.agg #[.int .u64 (L.p:Int), .int .i64 (L.block:Int), .int .i64 (L.queries:Int), .int .i64 (L.k:Int), .int .i64 (L.n:Int), .int .i64 (L.secret:Int), .int .i64 (L.rows:Int), .int .i64 (L.a:Int), .int .i64 (L.b:Int), .int .i64 (L.b:Int), .int .i64 (L.b:Int)], .bool false, .bool false]) (by simp [results,Tryz.results12,go_sem,c4']) rfl ⟨⟨HE.out,fun v s h=>by simp at h⟩,hW⟩
  ·have d1:decide ((64:Int)<(L.n:Int))=false:=decide_eq_false (by omega)
   have d2:decide (64<L.n)=false:=decide_eq_false z1
   have HTo:=Lib.hid (fun w=>G9 L.p L.block L.queries L.k L.n L.secret L.rows L.a L.b L.b L.b w na nb nb nb)
   revert HTo
   generalize hT:L.a+L.b+L.b+L.b=T
   intro HTo
   by_cases z2:40<T
   ·have HE:=Lib.hid (show Vs ⟨p,pub,vars,rows.length,bl,bw,qs⟩ (.returned (.tuple #[.agg #[.int .u64 (L.p:Int), .int .i64 (L.block:Int), .int .i64 (L.queries:Int), .int .i64 (L.k:Int), .int .i64 (L.n:Int), .int .i64 (L.secret:Int), .int .i64 (L.rows:Int), .int .i64 (L.a:Int), .int .i64 (L.b:Int), .int .i64 (L.b:Int), .int .i64 (L.b:Int)], .bool false, .bool false])) from ⟨_,_,_,_,_,_,_,_,_,_,_,_,_,rfl,fun h=>by cases h⟩)
    have d3:decide ((40:Int)<(T:Int))=true:=decide_eq_true (by omega)
    have d4:decide (40<T)=true:=decide_eq_true z2
    have HTT:=Lib.hid hT
    clear hT
    go_wp2_with fail
    refine (HTo.out _).mono ?_
    rintro e w3 ⟨rfl,hb3⟩
    have k2':=(k2.alloc (.cells #[.int .u64 (L.p:Int), .int .i64 (L.block:Int), .int .i64 (L.queries:Int), .int .i64 (L.k:Int), .int .i64 (L.n:Int), .int .i64 (L.secret:Int), .int .i64 (L.rows:Int), .int .i64 (L.a:Int), .int .i64 (L.b:Int), .int .i64 (L.b:Int), .int .i64 (L.b:Int)] 38)).below hb3 (by simp;omega)
    have k1':=(k1.alloc (.cells #[.int .u64 (L.p:Int), .int .i64 (L.block:Int), .int .i64 (L.queries:Int), .int .i64 (L.k:Int), .int .i64 (L.n:Int), .int .i64 (L.secret:Int), .int .i64 (L.rows:Int), .int .i64 (L.a:Int), .int .i64 (L.b:Int), .int .i64 (L.b:Int), .int .i64 (L.b:Int)] 38)).below hb3 (by simp;omega)
    have k5':=(Blk.new w1 38 #[.int .u64 (L.p:Int), .int .i64 (L.block:Int), .int .i64 (L.queries:Int), .int .i64 (L.k:Int), .int .i64 (L.n:Int), .int .i64 (L.secret:Int), .int .i64 (L.rows:Int), .int .i64 (L.a:Int), .int .i64 (L.b:Int), .int .i64 (L.b:Int), .int .i64 (L.b:Int)]).below hb3 (by simp)
    have hbw':=Za (hbw.alloc hbw.size _) hb3
    have l3:w.heap.size+1<w3.heap.size:=k2'.lt
    have l4:w.heap.size<w3.heap.size:=by omega
    have l5:w1.heap.size<w3.heap.size:=k5'.lt
    have n1:w1.heap.size≠w.heap.size+1:=by omega
    clear c1 f1 c2 f2 k1 k2 hbw hb3
    obtain ⟨c1,f1⟩:=k1'.cells'
    obtain ⟨c2,f2⟩:=k2'.cells'
    obtain ⟨c5,f5⟩:=k5'.cells'
    go_wp2
    have kW:=ZA k2' (.int .u64 (L.p:Int)) (.int .i64 (L.block:Int)) (.int .i64 (L.queries:Int)) (.int .i64 (L.k:Int)) (.int .i64 (L.n:Int)) (.int .i64 (L.secret:Int)) (.int .i64 (L.rows:Int)) (.int .i64 (L.a:Int)) (.int .i64 (L.b:Int)) (.int .i64 (L.b:Int)) (.int .i64 (L.b:Int))
    have hW:=Zu (g:=w.heap.size+1) hbw' (by omega) (.int .u64 (L.p:Int)) (.int .i64 (L.block:Int)) (.int .i64 (L.queries:Int)) (.int .i64 (L.k:Int)) (.int .i64 (L.n:Int)) (.int .i64 (L.secret:Int)) (.int .i64 (L.rows:Int)) (.int .i64 (L.a:Int)) (.int .i64 (L.b:Int)) (.int .i64 (L.b:Int)) (.int .i64 (L.b:Int))
    revert kW hW
    generalize ((((((((((World.setCell _ _ _).setCell _ _).setCell _ _).setCell _ _).setCell _ _).setCell _ _).setCell _ _).setCell _ _).setCell _ _).setCell _ _).setCell _ _=wf
    intro kW hW
    have c4':=kW.cell
    exact bodyPost_ret (v:=.tuple #[.agg #[.int .u64 (L.p:Int), .int .i64 (L.block:Int), .int .i64 (L.queries:Int), .int .i64 (L.k:Int), .int .i64 (L.n:Int), .int .i64 (L.secret:Int), .int .i64 (L.rows:Int), .int .i64 (L.a:Int), .int .i64 (L.b:Int), .int .i64 (L.b:Int), .int .i64 (L.b:Int)], .bool false, .bool false]) (by simp [results,Tryz.results12,go_sem,c4']) rfl ⟨⟨HE.out,fun v s h=>by simp at h⟩,hW⟩
   ·have HE:=Lib.hid (show ∀ s,Vs ⟨p,pub,vars,rows.length,bl,bw,qs⟩ (.returned (.tuple #[.agg #[.int .u64 (L.p:Int), .int .i64 (L.block:Int), .int .i64 (L.queries:Int), .int .i64 (L.k:Int), .int .i64 (L.n:Int), .int .i64 (L.secret:Int), .int .i64 (L.rows:Int), .int .i64 (L.a:Int), .int .i64 (L.b:Int), .int .i64 (L.b:Int), .int .i64 (L.b:Int)], .bool true, .bool s])) from fun s=>⟨_,_,_,_,_,_,_,_,_,_,_,_,_,rfl,fun _=>⟨L,HO.out,HLp.out,by omega,by omega,rfl⟩⟩)
    have d3:decide ((40:Int)<(T:Int))=false:=decide_eq_false (by omega)
    have d4:decide (40<T)=false:=decide_eq_false z2
    have HTT:=Lib.hid hT
    clear hT
    go_wp2_with fail
    refine (HTo.out _).mono ?_
    rintro e w3 ⟨rfl,hb3⟩
    have k2':=(k2.alloc (.cells #[.int .u64 (L.p:Int), .int .i64 (L.block:Int), .int .i64 (L.queries:Int), .int .i64 (L.k:Int), .int .i64 (L.n:Int), .int .i64 (L.secret:Int), .int .i64 (L.rows:Int), .int .i64 (L.a:Int), .int .i64 (L.b:Int), .int .i64 (L.b:Int), .int .i64 (L.b:Int)] 38)).below hb3 (by simp;omega)
    have k1':=(k1.alloc (.cells #[.int .u64 (L.p:Int), .int .i64 (L.block:Int), .int .i64 (L.queries:Int), .int .i64 (L.k:Int), .int .i64 (L.n:Int), .int .i64 (L.secret:Int), .int .i64 (L.rows:Int), .int .i64 (L.a:Int), .int .i64 (L.b:Int), .int .i64 (L.b:Int), .int .i64 (L.b:Int)] 38)).below hb3 (by simp;omega)
    have k5':=(Blk.new w1 38 #[.int .u64 (L.p:Int), .int .i64 (L.block:Int), .int .i64 (L.queries:Int), .int .i64 (L.k:Int), .int .i64 (L.n:Int), .int .i64 (L.secret:Int), .int .i64 (L.rows:Int), .int .i64 (L.a:Int), .int .i64 (L.b:Int), .int .i64 (L.b:Int), .int .i64 (L.b:Int)]).below hb3 (by simp)
    have hbw':=Za (hbw.alloc hbw.size _) hb3
    have l3:w.heap.size+1<w3.heap.size:=k2'.lt
    have l4:w.heap.size<w3.heap.size:=by omega
    have l5:w1.heap.size<w3.heap.size:=k5'.lt
    have n1:w1.heap.size≠w.heap.size+1:=by omega
    clear c1 f1 c2 f2 k1 k2 hbw hb3
    obtain ⟨c1,f1⟩:=k1'.cells'
    obtain ⟨c2,f2⟩:=k2'.cells'
    obtain ⟨c5,f5⟩:=k5'.cells'
    go_wp2
    refine Zx (Vg (w.heap.size+1)) [7,8] [0,1,2,3,4,5,6,7,8,9,10] (by kernel_rfl) (by kernel_rfl) ?_
    refine ZY (Zc (w.heap.size+1)) ?_
    intro Wc HWc hacc
    repeat (first | (refine Zh (Zc (w.heap.size+1)) rfl rfl (fun _ _ _ h=>h) ?_;simp only [Act.put,zLa,zLb,zLc]) | (refine Ze (v:=?_) (Zc (w.heap.size+1)) rfl rfl (fun _ _ _ h=>h) ?_ ?_;rotate_left;(· (intro w' hR;(first | have hcells:=ZI ((Zc (w.heap.size+1)).trans _ _ _ hacc hR) | skip);go_simp;try with_reducible rfl));simp only [Act.put,zLa,zLb,zLc]))
    have hwc:Below w.heap.size w Wc:=by rw [HWc.out];exact hbw'.drew
    have kwc:=k2'.drew
    rw [←HWc.out] at kwc
    refine ZX (Zc (w.heap.size+1)) rfl rfl rfl (fun _=>by go_simp <;> rfl) ((HS.out HT.out.1 HT.out.2.1 _ hwc).mono ?_)
    rintro e w4 ⟨rfl,hb4⟩
    refine ⟨_,rfl,Z2 hb4,?_⟩
    replace hacc:=(Zc (w.heap.size+1)).trans _ _ _ hacc (Z2 hb4)
    simp only [Act.put,zLa,zLb,zLc]
    replace kwc:=kwc.below hb4 kwc.lt
    replace hwc:=Za hwc hb4
    clear c1 f1 c2 f2 c5 f5 k1' k2' k5'
    obtain ⟨c2,f2⟩:=kwc.cells'
    refine Zs (Zc (w.heap.size+1)) rfl rfl rfl ?_
    go_simp
    refine ⟨kD _ (.int .u64 (L.p:Int)) (.int .i64 (L.block:Int)) (.int .i64 (L.queries:Int)) (.int .i64 (L.k:Int)) (.int .i64 (L.n:Int)) (.int .i64 (L.secret:Int)) (.int .i64 (L.rows:Int)) (.int .i64 (L.a:Int)) (.int .i64 (L.b:Int)) (.int .i64 (L.b:Int)) (.int .i64 (L.b:Int)),?_⟩
    have kW:=ZA kwc (.int .u64 (L.p:Int)) (.int .i64 (L.block:Int)) (.int .i64 (L.queries:Int)) (.int .i64 (L.k:Int)) (.int .i64 (L.n:Int)) (.int .i64 (L.secret:Int)) (.int .i64 (L.rows:Int)) (.int .i64 (L.a:Int)) (.int .i64 (L.b:Int)) (.int .i64 (L.b:Int)) (.int .i64 (L.b:Int))
    have hW:=Zu (g:=w.heap.size+1) hwc (by omega) (.int .u64 (L.p:Int)) (.int .i64 (L.block:Int)) (.int .i64 (L.queries:Int)) (.int .i64 (L.k:Int)) (.int .i64 (L.n:Int)) (.int .i64 (L.secret:Int)) (.int .i64 (L.rows:Int)) (.int .i64 (L.a:Int)) (.int .i64 (L.b:Int)) (.int .i64 (L.b:Int)) (.int .i64 (L.b:Int))
    clear hacc HWc c2 f2
    revert kW hW
    generalize ((((((((((World.setCell _ _ _).setCell _ _).setCell _ _).setCell _ _).setCell _ _).setCell _ _).setCell _ _).setCell _ _).setCell _ _).setCell _ _).setCell _ _=wf
    intro kW hW
    have hacc:=(Zc (w.heap.size+1)).refl wf
    repeat (first | (refine Zh (Zc (w.heap.size+1)) rfl rfl (fun _ _ _ h=>h) ?_;simp only [Act.put,zLa,zLb,zLc]) | (refine Ze (v:=?_) (Zc (w.heap.size+1)) rfl rfl (fun _ _ _ h=>h) ?_ ?_;rotate_left;(· (intro w' hR;(first | have hcells:=ZI ((Zc (w.heap.size+1)).trans _ _ _ hacc hR) | skip);go_simp;try with_reducible rfl));simp only [Act.put,zLa,zLb,zLc]))
    refine Zt ?_
    go_wp2
    have c4':=kW.cell
    exact bodyPost_ret (v:=.tuple #[.agg #[.int .u64 (L.p:Int), .int .i64 (L.block:Int), .int .i64 (L.queries:Int), .int .i64 (L.k:Int), .int .i64 (L.n:Int), .int .i64 (L.secret:Int), .int .i64 (L.rows:Int), .int .i64 (L.a:Int), .int .i64 (L.b:Int), .int .i64 (L.b:Int), .int .i64 (L.b:Int)], .bool true, .bool (kZ p rows ws)]) (by simp [results,Tryz.results12,go_sem,c4']) rfl ⟨⟨HE.out _,fun v s h=>by
     simp at h
     exact ⟨HT.out.1,HT.out.2.1,HT.out.2.2.1,by have:=HT.out.2.2.2;omega,h.2⟩⟩,hW⟩
end Go.Proofs.YtdhhdplholkmdaaGreat
