/- A part of the proof. No condition. -/
import Derived.Test.YtgeofabpinfcmaaGreatProg
import Derived.Test.YtgeofabpinfcmaaGreatEZ21
import Derived.Test.YtgeofabpinfcmaaGreatEZ32
import Derived.Test.YtgeofabpinfcmaaGreatEZ30
import Derived.Test.YtgeofabpinfcmaaGreatEZ29
import Derived.Test.YtgeofabpinfcmaaGreatEZ27
import Derived.Test.YtgeofabpinfcmaaGreatEZ26
import Derived.Test.YtgeofabpinfcmaaGreatEZ33
import Derived.Test.YtgeofabpinfcmaaGreatEZ31

set_option maxRecDepth 100000
set_option maxHeartbeats 8000000
set_option linter.unusedVariables false
set_option linter.unusedSimpArgs false
namespace Go.Proofs.YtgeofabpinfcmaaGreat
open Go.RowKit
def ku (N:Nat) (w:World) (xs:Nat -> Value) (n:Nat -> Nat) (vals:Nat -> List Nat):Prop :=
 (∀ j,j<3 -> w.ownsRow N 22 1 (xs j) (n j) (Fa ((vals j).take (n j)))) /\
 ∀ j i,j<3 -> i<3 -> j≠i -> ∀ q,(xs j).ownBlock=some q -> (xs i).ownBlock=some q -> False
theorem gI {N:Nat} {w w':World} {xs:Nat -> Value} {n:Nat -> Nat} {vals:Nat -> List Nat} (h:ku N w xs n vals) (hb:Below w.heap.size w w'):ku N w' xs n vals :=
 ⟨fun j hj=>Oa (h.1 j hj) hb zR,h.2⟩
theorem mZ {N B:Nat} {w w':World} {xs:Nat -> Value} {n:Nat -> Nat} {vals:Nat -> List Nat} (h:ku N w xs n vals) (hg:w.grownBy w' (some B)) (hB:B<N):ku N w' xs n vals :=
 ⟨fun j hj=>Hc (h.1 j hj) hg hB,h.2⟩
theorem lZ {N k:Nat} {w w':World} {xs:Nat -> Value} {n:Nat -> Nat} {vals:Nat -> List Nat} {x:Value} (h:ku N w xs n vals) (hk:k<3) (ho:w'.ownsRow N 22 1 x (n k+1) (Fa ((vals k).take (n k+1)))) (hg:w.grownBy w' (xs k).ownBlock) (hb:x.ownBlock=(xs k).ownBlock \/ x.ownBlock=some w.heap.size):ku N w' (Od xs k x) (fun j=>if j=k then n k+1 else n j) vals:=by
 refine ⟨fun j hj=>?_,fun j i hj hi Bb q h1 h2=>?_⟩
 ·by_cases e:j=k
  ·subst e;simp only [Od,if_true];exact ho
  ·simp only [Od,if_neg e]
   exact SL (h.1 j hj) hg fun q h1 h2=>h.2 j k hj hk e q h1 h2
 ·by_cases e:j=k
  ·subst e
   have e2:¬i=j:=fun e2=>Bb e2.symm
   rw [Od,if_pos rfl] at h1;rw [Od,if_neg e2] at h2;exact TG (h.1 i hi) (h.2 j i hj hi Bb) hb q h1 h2
  ·rw [Od,if_neg e] at h1
   by_cases e2:i=k
   ·subst e2
    rw [Od,if_pos rfl] at h2;exact TG (h.1 j hj) (h.2 i j hi hj (fun e=>Bb e.symm)) hb q h2 h1
   ·rw [Od,if_neg e2] at h2
    exact h.2 j i hj hi Bb q h1 h2
theorem uR (L:Ja) (pu:Nat) (vars:Int) (A B:Option Addr) (n c m d:Nat) (rows:List Cb) (ws:List Nat) (w:World) (hL:Db L) (hF:xl L pu vars rows) (hr:RSl 3 te w [.slice A n c] rows) (hw:RWd w [.slice B m d] ws) (Ml:(ws.length:Int)=vars) :
  Calls Tryz.prog 65 #[.agg (Ya L),pc L.p (pu:Int) vars (.slice A n c), .slice B m d] w fun e w'=>∃ v,e= .returned v /\ RRx w.heap.size w' v (Ia L rows ws pu) /\ Below w.heap.size w w':=by
 obtain ⟨Ud,Up,hdx,za,ig⟩:=Ra hw;subst Ud;have gm:=Kf Up hdx;have Ro:=hF.sec;have Mi:=hL.r;have Ku:=hF.nr;obtain ⟨s,hs⟩:=zEX (1+pu);have e1:(1:Int)+(pu:Int)=(s:Int):=by omega
 have e2:=Yb s;have e3:(s:Int) <= (ws.length:Int):=by omega
 have e4:s <= ws.length:=by omega
 have e5:(0:Int) <= (s:Int):=by omega
 have dv:((ws.length:Int) != vars)=false:=by rw [Ml];simp
 rw [show Ia L rows ws pu=sj L.block (Zc (ws.drop s) (Xe L.p rows ws 0) (Xe L.p rows ws 1) (Xe L.p rows ws 2)) (Zc L.a L.b L.b L.b) by rw [hs];rfl]
 have hq0:L.a=((ws.drop s).length+L.block-1) / L.block:=by
  rw [List.length_drop,show ws.length-s=L.secret by omega];exact hL.ae
 have Xf:∀ k,L.b=((Xe L.p rows ws k).length+L.block-1) / L.block:=fun k=>by
  rw [show (Xe L.p rows ws k).length=L.rows by simp [Xe,Ku]];exact hL.be
 have So:RWd w [.slice (if d=s then B else Option.map (fun x=>x.add s) B) (ws.length-s) (d-s)] (ws.drop s):=by
  have hc:=ig.cut (k:=s) e4 Up;rw [Nat.mul_one] at hc;refine ⟨_,_,_,rfl,by omega,by omega,?_,fun x hx=>za x (List.mem_of_mem_drop hx)⟩
  have e:Fa (ws.drop s)=(Fa ws).drop s:=by simp [Fa]
  rw [e];exact hc
 have tj:rows.length=n:=by
  obtain ⟨_,_,_,he,hn,-⟩:=hr;simp at he
  omega
 have HBe:=zH (fun w=>rO L pu vars A n c rows w hL hF tj)
 have HVl:=zH (fun A len c l w' (hb:Below w.heap.size w w') hl=>yT L.p A B len c ws.length d l ws w' hl (ta hb hw) hL.p)
 have BE:=zH (fun v0 v1 v2 v3 l0 l1 l2 l3 w h hq=>rR L v0 v1 v2 v3 l0 l1 l2 l3 w hL h hq)
 obtain ⟨A',n',c',he,ot,Td,Li,La⟩:=hr;simp at he
 obtain ⟨rfl,rfl,rfl⟩:=he;subst tj;have gr:(rows.length:Int) <= 65536:=by omega
 have Yr:=zH (show ∀ k i (h:i<rows.length),(Xe L.p rows ws k).take i++[Yc L.p (Mc rows[i] k) ws]=(Xe L.p rows ws k).take (i+1) from fun k i h=>by
  rw [List.take_succ_eq_append_getElem (by simpa [Xe] using h)]
  simp [Xe])
 have Wr:=zH (show ∀ k,(Xe L.p rows ws k).take rows.length=Xe L.p rows ws k from fun k=>List.take_of_length_le (by simp [Xe]))
 have yA:=zH (show ∀ k,∀ x∈Xe L.p rows ws k,x<18446744073709551616 from fun k x hx=>by
  obtain ⟨r,-,rfl⟩:=List.mem_map.1 hx;exact Nat.lt_trans (xL (by have:=Va hL.p;omega) _ _) (Va hL.p).2)
 obtain ⟨vals,MF⟩:=zEX (Xe L.p rows ws);rw [<- MF] at Yr Wr yA Xf |-;have HQ:=zH (And.intro hq0 Xf);obtain ⟨B0,sB⟩:=zEX ((if d=s then B else Option.map (fun x=>x.add s) B))
 have HB0:=zH sB;rw [<- sB] at So;obtain ⟨TC,xw⟩:∃ TC:Array Value,TC=#[.int .u64 L.p, .int .i64 pu, .int .i64 vars, .slice A rows.length c]:=⟨_,rfl⟩;have HTC:=zH xw;have HT0:=zH (show TC[0]?=some (.int .u64 L.p) by rw [xw];rfl)
 have tA:=zH (show TC[3]?=some (.slice A rows.length c) by rw [xw];rfl)
 unfold Ya pc at *;obtain ⟨kl,kt,da,-⟩:=Ue w 49 25 #[.int .u64 L.p, .int .i64 L.block, .int .i64 L.queries, .int .i64 L.k, .int .i64 L.n, .int .i64 L.secret, .int .i64 L.rows, .int .i64 L.a, .int .i64 L.b, .int .i64 L.b, .int .i64 L.b] #[.int .u64 L.p, .int .i64 pu, .int .i64 vars, .slice A rows.length c];clear hs MF ig za hw sB xw hq0 Xf Ro Mi Ku Ml hF hL;go_enter Tryz.func65,Tryz.ntmps65
 go_upto_region 1 with fail
 generalize (w.alloc _).alloc _=w1 at kl kt da |-;have cl:=kl.cell;have ct:=kt.cell;go_wp2_with fail
 refine (HBe.out _).mono ?_;rintro e w2 ⟨rfl,ea⟩;replace kl:=ia kl ea;replace kt:=ia kt ea;replace da:=oa da ea;clear ea cl ct HBe;have ct:=kt.cell;go_upto_region 4 with fail
 rw [<- HB0.out];clear e1 e2 e3 e4 e5 HB0 ct dv;have kv:=Blk.new w2 201 #[.slice B0 (ws.length-s) (d-s), .slice none 0 0, .slice none 0 0, .slice none 0 0];have ma:=(Below.refl w2.heap.size w2).alloc zR (.cells #[.slice B0 (ws.length-s) (d-s), .slice none 0 0, .slice none 0 0, .slice none 0 0] 201);have n1:=kt.lt;have n2:=kl.lt;replace kl:=ia kl ma;replace kt:=ia kt ma;replace da:=oa da ma;clear ma;have qg:w2.heap.size+1 <= (w2.alloc (.cells #[.slice B0 (ws.length-s) (d-s), .slice none 0 0, .slice none 0 0, .slice none 0 0] 201)).heap.size:=kv.lt;have Zq:w.heap.size <= w2.heap.size:=by omega
 generalize ws.length-s=n0 at *;generalize d-s=d0 at *;generalize w2.alloc _=w3 at kl kt kv da qg |-;generalize w2.heap.size=gv at kv n1 n2 qg Zq |-;obtain ⟨V0,Eo⟩:∃ V0:Value,V0= .slice B0 n0 d0:=⟨_,rfl⟩;have Zm:=zH Eo;rw [<- Eo] at kv So;clear Eo;rw [<- HTC.out] at kt;have n3:w.heap.size≠gv:=by omega
 have n4:w.heap.size+1≠gv:=by omega
 obtain ⟨N,hN⟩:=zEX (gv+1);rw [<- hN] at qg;have nv:gv<N:=by omega
 have nv2:gv≠N:=by omega
 have n5:w.heap.size<N:=by omega
 have n6:w.heap.size+1<N:=by omega
 have n7:w.heap.size <= gv:=by omega
 have n8:w.heap.size≠N:=by omega
 clear hN;have ct:=kt.cell 3;rw [tA.out] at ct;go_wp2_with fail
 clear ct;go_loopw [32] (fun y wr=>∃ (i:Nat) (xs:Nat -> Value),i <= rows.length /\ y= .int .i64 i /\ Blk wr w.heap.size 49 #[.int .u64 L.p, .int .i64 L.block, .int .i64 L.queries, .int .i64 L.k, .int .i64 L.n, .int .i64 L.secret, .int .i64 L.rows, .int .i64 L.a, .int .i64 L.b, .int .i64 L.b, .int .i64 L.b] /\ Blk wr (w.heap.size+1) 25 TC /\ Blk wr gv 201 #[V0,xs 0,xs 1,xs 2] /\ ku N wr xs (fun _=>i) vals /\ Below w.heap.size w wr /\ N <= wr.heap.size) (fun y _=>rows.length-(intOf y).toNat)
 case atStart=>exact ⟨0,fun _=>.slice none 0 0,by omega,rfl,kl,kt,kv,⟨fun j _=>⟨rfl, .inl ⟨rfl,rfl⟩⟩,fun j i _ _ _ q h=>by cases h⟩,da,qg⟩
 case round =>
  clear kl kt kv da qg;obtain ⟨i,xs,hi,rfl,kl,kt,kv,h3,da,qg⟩:=hrel;by_cases Lo:i<rows.length
  ·have q1:(i:Int)<(rows.length:Int):=by omega
   have q2:(0:Int) <= (i:Int):=by omega
   obtain ⟨b,q,rfl⟩:=La.base (by omega) (by omega)
   obtain ⟨cs,-,hc,u0,u1,u2,rfl,ur,vr,Im⟩:=La.get Lo;have r0:w.cell? ⟨b,q+i*3,none⟩=some u0:=hc 0 (by omega)
   have r1:w.cell? ⟨b,q+i*3+1,none⟩=some u1:=hc 1 (by omega)
   have r2:w.cell? ⟨b,q+i*3+2,none⟩=some u2:=hc 2 (by omega)
   have lb:=World.block_lt_of_cell? _ _ r0;replace r0:=(da.cell (p:=⟨b,q+i*3,none⟩) lb).trans r0;replace r1:=(da.cell (p:=⟨b,q+i*3+1,none⟩) lb).trans r1;replace r2:=(da.cell (p:=⟨b,q+i*3+2,none⟩) lb).trans r2;obtain ⟨P0,m0,k0,rfl⟩:=RSl.slc ur;obtain ⟨P1,m1,Sk,rfl⟩:=RSl.slc vr;obtain ⟨P2,m2,k2,rfl⟩:=RSl.slc Im;have IE:=zH (show ∀ k,(vals k).take i++[Yc L.p (Mc (rows[i]'Lo) k) ws]=(vals k).take (i+1) from fun k=>Yr.out k i Lo)
   obtain ⟨ri,hri⟩:=zEX (rows[i]'Lo);rw [<- hri] at ur vr Im IE;clear hri;have HHI:=zH hi;obtain ⟨i1,Io⟩:=zEX (i+1);have Di:=zH Io;have Qg:=zH Lo;clear hc hi Io;go_upto_region 7 with fail
   have kr:=Blk.new wr 189 #[.slice P0 m0 k0, .slice P1 m1 Sk, .slice P2 m2 k2];have ma:=(Below.refl wr.heap.size wr).alloc zR (.cells #[.slice P0 m0 k0, .slice P1 m1 Sk, .slice P2 m2 k2] 189);replace h3:=gI h3 ma;replace kl:=ia kl ma;replace kt:=ia kt ma;replace kv:=ia kv ma;replace da:=oa da ma;replace qg:=Nat.le_trans qg ma.size;clear ma r0 r1 r2;generalize wr.alloc _=wo at kr kl kt kv h3 da qg |-;generalize wr.heap.size=gr at kr |-;have cr:=kr.cell;go_wp2_with fail
   clear cr kr;have HU0:=zH (fun w' (hb:Below w.heap.size w w')=>jg _ _ _ _ hb ur)
   have HU1:=zH (fun w' (hb:Below w.heap.size w w')=>jg _ _ _ _ hb vr)
   have HU2:=zH (fun w' (hb:Below w.heap.size w w')=>jg _ _ _ _ hb Im)
   clear ur vr Im;go_loopw [43] (fun y wr=>∃ (k:Nat) (xs:Nat -> Value),k <= 3 /\ y= .int .i64 k /\ Blk wr gv 201 #[V0,xs 0,xs 1,xs 2] /\ ku N wr xs (fun j=>if j<k then i+1 else i) vals /\ qj gv N wo wr /\ N <= wr.heap.size) (fun y _=>3-(intOf y).toNat)
   case atStart=>exact ⟨0,xs,by omega,rfl,kv,h3,(xb _ _).refl _,qg⟩
   case round =>
    clear kv h3;obtain ⟨k,xs,hk,rfl,kv,h3,Ua,Fh⟩:=hrel;have y1:w.heap.size<gv+1:=by omega
    have y2:w.heap.size+1<gv+1:=by omega
    have Lc:=uo kl Ua n5 n3;have Ad:=uo kt Ua n6 n4;have Qa:Below w.heap.size w wr:=da.trans ⟨Ua.1,Ua.2.1,Ua.2.2.1,Ua.2.2.2.1,fun b hb=>Ua.2.2.2.2 b (by omega) (by omega)⟩
    by_cases za:k<3
    ·have g1:(k:Int)<3:=by omega
     have g2:(0:Int) <= (k:Int):=by omega
     obtain ⟨k1,Ld⟩:=zEX (k+1);have ek:(1:Int)+(k:Int)=(k1:Int):=by omega
     have VA:=Yb k1;have Wj:=zH Ld;have qk:k1<4:=by omega
     have qk2:(k1:Int)<4:=by omega
     have qk3:(0:Int) <= (k1:Int):=by omega
     clear Ld;have ra:wr.ownsRow N 22 1 (xs k) i (Fa ((vals k).take i)):=by have:=h3.1 k za;simpa using this
     obtain ⟨Ax,cx,jq,-⟩:=Ob ra;have ix:=fun (w:World)=>EH (w:=w) (x:=.slice P0 m0 k0) (y:=.slice P1 m1 Sk) (z:=.slice P2 m2 k2) za
     obtain ⟨sel,Jf⟩:=zEX ((if k=0 then Value.slice P0 m0 k0 else if k=1 then .slice P1 m1 Sk else .slice P2 m2 k2))
     have Qk:RLin wr [sel] (Mc ri k):=by
      rw [Jf];unfold Mc;have hfb:Below wo.heap.size wo wr \/ True:=.inr trivial;rcases (show k=0 \/ k=1 \/ k=2 by omega) with h | h | h <;> subst h
      ·exact HU0.out _ Qa
      ·exact HU1.out _ Qa
      ·exact HU2.out _ Qa
     rw [<- Jf] at ix;obtain ⟨As,ns,ed,rfl⟩:=RSl.slc Qk;have RN:=zH (IE.out k);have cv:wr.cell? ⟨gv,k1,none⟩=some (.slice Ax i cx):=by
      rw [kv.cell,Wj.out,yD za,jq]
     obtain ⟨z,hz⟩:=zEX (Yc L.p (Mc ri k) ws);have Vv:=zH (fun w' (hb:Below w.heap.size w w') (QB:RLin w' [.slice As ns ed] (Mc ri k))=>by have:=HVl.out As ns ed (Mc ri k) w' hb QB;rw [<- hz] at this;exact this)
     rw [<- hz] at RN;have HXK:=zH jq;have cl:=Lc.cell;have ll:=Lc.lt;have lv:=kv.lt;clear Jf hz jq;generalize Mc ri k=lside at *;go_upto_region 10 with fail
     refine Qt (qj N N) [10,11,12,14] [14] [0,1,2,3,4,5,6,7,8,9,10,11,12,13,14] (by kernel_rfl) (by kernel_rfl) ?_
     refine Tt (xb N N) ?_;intro Wc Na ja;have ya:=Cc Na;have Dc:N <= Wc.heap.size:=by have:=ya.size;omega
     replace kv:=ia kv ya;replace ra:=Oa ra ya zR;replace Qa:=oa Qa ya;replace h3:=gI h3 ya;replace Qk:=jg _ _ _ _ ya Qk;replace Ua:=(xb gv N).trans _ _ _ Ua (ue ya Fh);clear Na ya;refine Ah ?_;refine fh (xb N N) rfl rfl rfl (fun _=>by go_simp <;> rfl) ((Vv.out _ Qa Qk).mono ?_)
     rintro e w6 ⟨rfl,Zb⟩;refine ⟨_,rfl,fun _=>ue Zb Dc,?_⟩
     replace ja:=(xb N N).trans _ _ _ ja (ue Zb Dc);simp only [Act.put,zLa,zLb,zLc];have Gh:N <= w6.heap.size:=by have:=Zb.size;omega
     replace kv:=ia kv Zb;replace ra:=Oa ra Zb zR;replace Qa:=oa Qa Zb;replace h3:=gI h3 Zb;replace Ua:=(xb gv N).trans _ _ _ Ua (ue Zb Dc);clear Zb Qk;refine Ah ?_;refine Rh (xb N N) rfl rfl rfl ?_;go_simp;have ma:=(Below.refl w6.heap.size w6).alloc zR (.cells #[.int .u64 z] 22);have Qe:=Lf w6 (.int .u64 z) 22;refine ⟨fun _=>ue ma Gh,?_⟩
     replace kv:=ia kv ma;replace ra:=Oa ra ma zR;replace Qa:=oa Qa ma;replace h3:=gI h3 ma;replace Ua:=(xb gv N).trans _ _ _ Ua (ue ma Gh);have de:=Nat.le_trans Gh ma.size
     try simp only [Act.put,zLa,zLb,zLc]
     generalize w6.alloc _=w7 at kv ra h3 Ua Qe Qa de |-;generalize w6.heap.size=g6 at Qe |-;clear ma Gh ja cl cv;have ja:=(xb N N).refl w7;refine Ah ?_;refine Rh (xb N N) rfl rfl rfl ?_;refine Tn _ _ rfl xf rfl (by rw [HXK.out] at ra;exact ra) rfl Qe (mg [z]) (by omega) de ?_
     intro v' wn db Ma Lb;have Rb:∀ q,(Value.slice Ax i cx).ownBlock=some q -> N <= q:=fun q e=>by rw [<- HXK.out] at e;exact (ra.lt q e).1
     refine ⟨fun _=>Ao Ma de Rb,?_⟩
     replace kv:=kv.grown Ma (fun e=>by first | (have:=Rb _ e;omega) | (have:=Rb _ e.symm;omega))
     replace Ua:=(xb gv N).trans _ _ _ Ua (Ao Ma de Rb);replace db:wn.ownsRow N 22 1 v' (i+1) (Fa ((vals k).take (i+1))):=Qi (b:=[z]) db RN.out;have h4:=lZ (x:=v') h3 za (by simpa using db) (by rw [HXK.out];exact Ma) (by rw [HXK.out];exact Lb)
     obtain ⟨Aw,cw,rfl,-⟩:=Ob db;have af:=Nat.le_trans de Ma.size;clear ra Ma Lb Rb de Qe ja h3 db;have ja:=(xb N N).refl wn;have cv:wn.cell? ⟨gv,k1,none⟩=some (.slice Ax i cx):=by
      rw [kv.cell,Wj.out,yD za,HXK.out]
     have fv2:=kv.frozen
     try simp only [Act.put,zLa,zLb,zLc]
     refine Ah ?_;refine Rh (xb N N) rfl rfl rfl ?_;go_simp;refine ⟨fun h=>Bool.noConfusion h,?_⟩
     have Ba:=Me (w:=wn) gv k1 (.slice Aw (i+1) cw);replace kv:=kv.set_ k1 (.slice Aw (i+1) cw);rw [Wj.out,NJ za,<- Wj.out] at kv;have h4:=mZ h4 Ba nv;replace Ua:=(xb gv N).trans _ _ _ Ua (mB Ba af);replace af:=Nat.le_trans af Ba.size;clear Ba cv fv2 ja;generalize wn.setCell _ _=wz at kv h4 Ua af |-;have ja:=(xb N N).refl wz;refine Ah ?_;refine Rt ?_;have h5:ku N wz (Od xs k (.slice Aw (i+1) cw)) (fun j=>if j<k1 then i+1 else i) vals:=by
      have e:(fun j=>if j=k then (fun j=>if j<k then i+1 else i) k+1 else (fun j=>if j<k then i+1 else i) j)=(fun j=>if j<k1 then i+1 else i):=by
       funext j
       rw [Wj.out];by_cases e1:j=k
       ·subst e1;simp
       ·by_cases e2:j<k
        ·simp [e1,e2,show j<k+1 by omega]
        ·simp [e1,e2,show ¬j<k+1 by omega]
      rw [e] at h4;exact h4
     clear h4;have HKL:=zH (show k1 <= 3 by omega)
     go_wp2
     go_roundw
     case rel=>exact ⟨k1,Od xs k (.slice Aw (i+1) cw),HKL.out,by rw [Wj.out];go_num,kv,h5,Ua,af⟩
     case measure=>simp [intOf];omega
    ·obtain rfl:k=3:=by omega
     have qB:ku N wr xs (fun _=>i1) vals:=by
      refine ⟨fun j hj=>?_,h3.2⟩
      have:=h3.1 j hj;simp only [if_pos hj] at this;rw [Di.out];exact this
     clear h3;have Vx:=zH (show i1 <= rows.length by have:=Qg.out;have:=Di.out;omega)
     go_wp2_with fail
     go_roundw
     case rel=>exact ⟨i1,xs,Vx.out,by rw [Di.out];go_num,Lc,Ad,kv,qB,Qa,Fh⟩
     case measure=>have:=Qg.out;simp [intOf];omega
  ·obtain rfl:i=rows.length:=by omega
   have q2:¬((rows.length:Int)<(rows.length:Int)):=by omega
   have h0:=h3.1 0 (by omega)
   have h1:=h3.1 1 (by omega)
   have h2:=h3.1 2 (by omega)
   rw [Wr.out] at h0 h1 h2;obtain ⟨A1,c1,e1,h0⟩:=MM h0 (yA.out 0);obtain ⟨A2,c2,e2,h1⟩:=MM h1 (yA.out 1);obtain ⟨A3,c3,e3,h2⟩:=MM h2 (yA.out 2);have hv:=ta da So;have HH:=zH (fun (w':World) (hb:Below wr.heap.size wr w')=>BE.out V0 (xs 0) (xs 1) (xs 2) (ws.drop s) (vals 0) (vals 1) (vals 2) w' (fun i hi=>by
    rw [e1,e2,e3];rcases (show i=0 \/ i=1 \/ i=2 \/ i=3 by omega) with rfl | rfl | rfl | rfl
    ·exact ta hb hv
    ·exact ta hb h0
    ·exact ta hb h1
    ·exact ta hb h2) (fun i hi=>by
    rcases (show i=0 \/ i=1 \/ i=2 \/ i=3 by omega) with rfl | rfl | rfl | rfl
    ·exact HQ.out.1
    ·exact HQ.out.2 0
    ·exact HQ.out.2 1
    ·exact HQ.out.2 2))
   rw [e1,e2,e3,Zm.out] at kv HH;have cl:=kl.cell;have cv:=kv.cell;have ll:=kl.lt;have lv:=kv.lt;clear h3 h0 h1 h2 hv e1 e2 e3;go_wp2_with fail
   refine (HH.out _ (Below.refl _ _)).mono ?_;rintro e w9 ⟨v,rfl,YB,ea⟩;go_wp2;go_ret
   exact ⟨_,rfl,YB.mono da.size,oa da ea⟩
theorem zD (w:World) (t1 t2 t3 t4 t5:TypeId) (ed me Sf Zj jw:Array Value) :
  Blk (((((w.alloc (.cells ed t1)).alloc (.cells me t2)).alloc (.cells Sf t3)).alloc (.cells Zj t4)).alloc (.cells jw t5)) w.heap.size t1 ed /\ Blk (((((w.alloc (.cells ed t1)).alloc (.cells me t2)).alloc (.cells Sf t3)).alloc (.cells Zj t4)).alloc (.cells jw t5)) (w.heap.size+1) t2 me /\ Blk (((((w.alloc (.cells ed t1)).alloc (.cells me t2)).alloc (.cells Sf t3)).alloc (.cells Zj t4)).alloc (.cells jw t5)) (w.heap.size+1+1) t3 Sf /\ Blk (((((w.alloc (.cells ed t1)).alloc (.cells me t2)).alloc (.cells Sf t3)).alloc (.cells Zj t4)).alloc (.cells jw t5)) (w.heap.size+1+1+1) t4 Zj /\ Blk (((((w.alloc (.cells ed t1)).alloc (.cells me t2)).alloc (.cells Sf t3)).alloc (.cells Zj t4)).alloc (.cells jw t5)) (w.heap.size+1+1+1+1) t5 jw /\
   Below w.heap.size w (((((w.alloc (.cells ed t1)).alloc (.cells me t2)).alloc (.cells Sf t3)).alloc (.cells Zj t4)).alloc (.cells jw t5)) /\ (((((w.alloc (.cells ed t1)).alloc (.cells me t2)).alloc (.cells Sf t3)).alloc (.cells Zj t4)).alloc (.cells jw t5)).heap.size=w.heap.size+5:=by
 obtain ⟨h1,h2,h3,h4,h5,h6⟩:=uO w t1 t2 t3 t4 ed me Sf Zj;refine ⟨h1.alloc _,h2.alloc _,h3.alloc _,h4.alloc _,?_,h5.alloc (by omega) _,by simp⟩
 have:=Blk.new ((((w.alloc (.cells ed t1)).alloc (.cells me t2)).alloc (.cells Sf t3)).alloc (.cells Zj t4)) t5 jw;rw [h6] at this;exact this
theorem OZ (A:Option Addr) (n c m:Nat) (l:List Nat) (w:World) (hl:RWd w [.slice A n c] l) (hn:n <= 100000) (hm:m <= 100000) :
  Calls Tryz.prog 127 #[.slice A n c, .int .i64 m] w fun e w'=>∃ v,e= .returned v /\ w'.ownsRow w.heap.size 22 1 v (Te l m).length (Fa (Te l m)) /\ Below w.heap.size w w':=by
 obtain ⟨rfl,h1,h2,za,La⟩:=Ra hl;have ma:=(Below.refl w.heap.size w).alloc zR (.cells #[] 22);have HS:=zH (show ∀ k,l++List.replicate k 0++[0]=l++List.replicate (k+1) 0 from fun k=>by rw [List.append_assoc,List.replicate_succ'])
 have HP:=zH (show Te l m=l++List.replicate (m-l.length) 0 from rfl)
 rw [HP.out];obtain ⟨f,hf⟩:=zEX (fun k=>l++List.replicate k 0)
 have H0:=zH (show f 0=l by rw [hf];simp)
 have HF:=zH (show ∀ k,f k++[0]=f (k+1) from fun k=>by rw [hf];exact HS.out k)
 rw [show l++List.replicate (m-l.length) 0=f (m-l.length) by rw [hf]]
 clear HS HP hf za h1 h2 hl;go_enter Tryz.func127,Tryz.ntmps127
 go_wp2_with (at_builtin;refine Mf rfl _ _ rfl xf rfl (Wk w 22 zR) rfl (La.alloc _) (mg l) (by omega) (by simp) ?_)
 intro v1 w1 ra Ma Lb;have hB:=Ae (Wk w 22 zR) Ma (by simp)
 replace hB:=ma.trans hB;obtain ⟨t,ht⟩:=zEX (l.length);have zk:w1.ownsRow w.heap.size 22 1 v1 t (Fa (f 0)):=by
  rw [H0.out,ht];simpa using ra
 have HT:=zH ht;clear Ma Lb ra ma ht La;go_wp2_with fail
 go_loopw [5] (fun v wr=>∃ k s:Nat,Hid (s=t+k /\ (k=0 \/ s <= m)) /\ s <= 200000 /\ wr.ownsRow w.heap.size 22 1 v s (Fa (f k)) /\ Below w.heap.size w wr) (fun v _=>match v with | .slice _ n _=>m-n | _=>0)
 case atStart=>exact ⟨0,t,zH ⟨rfl, .inl rfl⟩,by have:=HT.out;omega,zk,hB⟩
 case round =>
  clear zk hB;obtain ⟨k,s,HK,hs,ra,hb⟩:=hrel;obtain ⟨A1,c1,rfl,-⟩:=Ob ra;by_cases za:s<m
  ·have g1:(s:Int)<(m:Int):=by omega
   have Yd:=zH (HF.out k);go_wp2_with (at_builtin;refine Mf rfl _ _ rfl xf rfl (ra.alloc _) rfl (Lf _ _ _) (mg [0]) (by omega) (by simp;have:=hb.size;omega) ?_)
   intro v' wn db Ma Lb;have ma:=(Below.refl wr.heap.size wr).alloc zR (.cells #[.int .u64 (0:Int)] 22);have hB:=Ae (ra.alloc _) Ma (by simp;have:=hb.size;omega)
   replace hb:=(Uh hb ma hb.size).trans hB;replace ra:wn.ownsRow w.heap.size 22 1 v' (s+1) (Fa (f (k+1))):=Qi (b:=[0]) db Yd.out;clear db Ma Lb ma hB;obtain ⟨A2,c2,rfl,-⟩:=Ob ra;go_wp2
   go_roundw
   case rel=>exact ⟨k+1,s+1,zH (by have:=HK.out;omega),by omega,ra,hb⟩
   case measure=>simp;omega
  ·have g1:¬((s:Int)<(m:Int)):=by omega
   have HE:=zH (show f k=f (m-l.length) by
    have h:=HK.out;have h2:=HT.out;rcases h.2 with h3 | h3
    ·rw [h3,show m-l.length=0 by omega]
    ·rw [show k=m-l.length by omega])
   rw [HE.out] at ra;have Hk:=zH (show (f (m-l.length)).length=s by
    have:=ra.1
    simpa [Fa] using this)
   go_wp2;go_ret
   exact ⟨_,rfl,by rw [Hk.out];exact ra,hb⟩
theorem pZ (L:Ja) (pu rho al be:Nat) (vars:Int) (A AM D0 D1 D2 D3 D4:Option Addr) (R c T cM n0 n1 n2 n3 n4 k0 k1 k2 k3 k4:Nat) (rows:List Cb) (m r:List (List Nat)) (co li qu:List Nat) (w:World)
  (hL:Db L) (hF:xl L pu vars rows) (hr:RSl 3 te w [.slice A R c] rows) (hV:mn vars rows)
  (hm:Sb w [.slice AM T cM] m) (h0:Sb w [.slice D0 n0 k0] r) (h1:RWd w [.slice D1 n1 k1] co) (h2:RWd w [.slice D2 n2 k2] li) (h3:RWd w [.slice D3 n3 k3] qu)
  (Ta:Kg L m r) (Us:co.length=L.k) (Vf:li.length=L.k+L.block-2) (Vs:qu.length=L.block+2*L.queries-1) :
  Calls Tryz.prog 53 #[.agg (Ya L),pc L.p (pu:Int) vars (.slice A R c), .slice AM T cM, .agg #[.slice D0 n0 k0, .slice D1 n1 k1, .slice D2 n2 k2, .slice D3 n3 k3, .slice D4 n4 k4], .agg #[.int .u64 al, .int .u64 rho, .int .u64 be]] w fun e w'=>∃ v1 v2 v3,e= .returned (.agg #[v1,v2,v3]) /\
   w'.ownsRow w.heap.size 22 1 v1 (Pd L m r co al).length (Fa (Pd L m r co al)) /\ w'.ownsRow w.heap.size 22 1 v2 (Nc L (Tc L pu rho rows) m r li).length (Fa (Nc L (Tc L pu rho rows) m r li)) /\ w'.ownsRow w.heap.size 22 1 v3 (pd L m r qu be).length (Fa (pd L m r qu be)) /\ Below w.heap.size w w':=by
 have Hh:=hL.b1;have Ii:=hL.b2;have Xf:=hL.q1;have Sg:=hL.q2;have hk:=hL.k;have Jl:=hL.a;have Lw:=hL.b;have Ud:=Ta.ml;have Lp:=(Ve hm).1;have e1:=(Ra h1).1;have e2:=(Ra h2).1;have e3:=(Ra h3).1;have sl:=fun A n c=>(⟨A,n,c,rfl⟩:slc (.slice A n c))
 obtain ⟨t1,ht1⟩:=zEX (L.k+L.block-1);obtain ⟨t2,ht2⟩:=zEX (2*L.k-1);have HRo:=zH (fun w' (hb:Below w.heap.size w w')=>sS L D0 D1 D2 D3 D4 AM n0 n1 n2 n3 n4 T k0 k1 k2 k3 k4 cM m r w' hL (Kc DC _ _ _ _ hb hm) (Kc DC _ _ _ _ hb h0) Ta.rl.symm Ta.mr (fun x hx=>by have:=Ta.rr x hx;omega) (by omega))
 have HLe:=zH (fun w=>IZ L t1 t2 w hL ht1 ht2)
 have Ye:=zH (fun w=>aS L (.slice D0 n0 k0) (.slice D1 n1 k1) (.slice D2 n2 k2) (.slice D3 n3 k3) (.slice D4 n4 k4) w (sl _ _ _) (sl _ _ _) (sl _ _ _) (sl _ _ _) (sl _ _ _))
 have HA:=zH (fun A B n c m d a b w ha hb hn hm=>Ex L.p A B n c m d a b w hL.p ha hb hn hm)
 have HP:=zH (fun A n c m l w hl hn hm=>OZ A n c m l w hl hn hm)
 have Bh:=zH (fun w' (hb:Below w.heap.size w w')=>gS L (.slice D0 n0 k0) (.slice D1 n1 k1) (.slice D3 n3 k3) (.slice D4 n4 k4) D2 n2 k2 li w' hL (sl _ _ _) (sl _ _ _) (sl _ _ _) (sl _ _ _) (ta hb h2) (by omega))
 have HW:=zH (fun w' (hb:Below w.heap.size w w')=>DS L pu rho vars A R c rows w' hL hF (Kc Gc _ _ _ _ hb hr) hV)
 have Vr:=zH (fun w' (hb:Below w.heap.size w w')=>QZ L (.slice D0 n0 k0) (.slice D1 n1 k1) (.slice D2 n2 k2) (.slice D4 n4 k4) D3 n3 k3 qu w' hL (sl _ _ _) (sl _ _ _) (sl _ _ _) (sl _ _ _) (ta hb h3) (by omega))
 obtain ⟨cs,qe⟩:=zEX (Tc L pu rho rows);obtain ⟨rd,La⟩:=zEX (Cd L m r);have Cn:∀ x∈cs,x.length=L.block:=by rw [qe];exact fw
 have Jm:∀ x∈Ig L.p cs,x.length <= L.block:=fun x hx=>by
  obtain ⟨i,hi,rfl⟩:=List.mem_map.1 hx;rw [Px,List.length_map,List.length_range,Bm Cn (List.mem_range.1 hi)];exact zR
 have hwn:(Ig L.p cs).length=T:=by
  rw [Ig,List.length_map,List.length_range,qe,zy];omega
 have Mg:∀ x∈rd,x.length=L.k:=by rw [La];exact fG hL Ta
 have tj:rd.length=T:=by rw [La,CI];exact Lp
 rw [<- qe] at HW |-;have yc:=zH (show Pd L m r co al=Te (Pe L.p co (Yi L.p rd al T)) L.k by rw [La,<- Lp];rfl)
 have Uj:=zH (show Nc L cs m r li=Te (Pe L.p (Bd L li) (Oi L.p rd (Ig L.p cs) T)) t1 by rw [La,<- Lp,ht1];rfl)
 have Vm:=zH (show pd L m r qu be=Te (Pe L.p (Gg L qu) (bh L.p L.a L.b rd be L.b)) t2 by rw [La,ht2];rfl)
 rw [yc.out,Uj.out,Vm.out];have Rv:=zH (show (List.range m.length).map (Vl L m r)=rd by rw [La];rfl)
 rw [Rv.out] at HRo;have lh:=zH (show ∀ x∈rd,x.length <= 1000 from fun x hx=>by rw [Mg x hx];omega)
 have HWL:=zH (show ∀ x∈Ig L.p cs,x.length <= 1000 from fun x hx=>by have:=Jm x hx;omega)
 have Xn:=zH (fun A c w hr=>ZR L A T c al rd w hL hr lh.out)
 have Jv:=zH (fun A B c d w hr hs=>iS L A B T c T d rd (Ig L.p cs) w hL hr hs zR lh.out HWL.out)
 have HQ2:=zH (fun A c w hr=>nS L A T c be rd w hL hr lh.out (by omega))
 have HRN:=zH (And.intro tj hwn);have s1:=zH (show (Yi L.p rd al T).length <= 1000 from VE (fun x hx=>lh.out x hx) T)
 have s2:=zH (show (Oi L.p rd (Ig L.p cs) T).length <= 2000 by have:=RF (p:=L.p) (fun x hx=>lh.out x hx) (fun x hx=>HWL.out x hx) T;omega)
 have s3:=zH (show (bh L.p L.a L.b rd be L.b).length <= 2000 by have:=YF (p:=L.p) (a:=L.a) (b:=L.b) (be:=be) (fun x hx=>lh.out x hx) L.b;omega)
 have s4:=zH (show (Bd L li).length <= 2000 by rw [Bd,List.length_cons];omega)
 have s5:=zH (show (Gg L qu).length <= 2000 by rw [Dx hL Vs,Pg,List.length_map,List.length_range];omega)
 have Zt:=zH (show n2+1=(Bd L li).length by rw [Bd,List.length_cons,<- e2])
 have za:=(Va hL.p).2;have HMT:=zH (show ∀ x∈Bd L li,x<18446744073709551616 from fun x hx=>by
  rcases List.mem_cons.1 hx with h | h
  ·rw [h];exact Nat.lt_trans (bE (by have:=Va hL.p;omega) _ _) za
  ·exact (Ra h2).2.2.2.1 x h)
 have s6:n1 <= 1000:=by omega
 have Dq:=zH (fun a b=>nn L.p a b)
 have HT4:=zH (show L.a+L.b+L.b+L.b=T by omega)
 have gk:L.k <= 1000:=by omega
 have gt1:t1 <= 1000:=by omega
 have gt2:t2 <= 1000:=by omega
 have HXA:=zH (show ∀ a b n,∀ x∈Te (Pe L.p a b) n,x<18446744073709551616 from fun a b n=>VH (by omega) fun x hx=>Nat.lt_trans (nG (by have:=Va hL.p;omega) hx) za)
 have bn:=zH (HXA.out co (Yi L.p rd al T) L.k);have Ei:=zH (HXA.out (Bd L li) (Oi L.p rd (Ig L.p cs) T) t1);have HX3:=zH (HXA.out (Gg L qu) (bh L.p L.a L.b rd be L.b) t2);clear HXA;generalize Oi L.p rd (Ig L.p cs) T=P2 at *;generalize Yi L.p rd al T=P1 at *;generalize bh L.p L.a L.b rd be L.b=P3 at *;generalize Bd L li=M2 at *;generalize Gg L qu=M3 at *;clear Hh Ii Xf Sg hk Jl Lw Ud Lp e1 e2 e3 sl ht1 ht2 qe La Cn Jm hwn Mg tj yc Uj Vm Rv za hL hF hr hV hm h0 h2 h3 Ta Us Vf Vs;unfold Ya pc at *;obtain ⟨kl,kt,kc,kx,ka,da,-⟩:=zD w 39 25 42 32 54 #[.int .u64 L.p, .int .i64 L.block, .int .i64 L.queries, .int .i64 L.k, .int .i64 L.n, .int .i64 L.secret, .int .i64 L.rows, .int .i64 L.a, .int .i64 L.b, .int .i64 L.b, .int .i64 L.b] #[.int .u64 L.p, .int .i64 pu, .int .i64 vars, .slice A R c] #[.slice D0 n0 k0, .slice D1 n1 k1, .slice D2 n2 k2, .slice D3 n3 k3, .slice D4 n4 k4] #[.int .u64 al, .int .u64 rho, .int .u64 be] #[.slice none 0 0, .slice none 0 0, .slice none 0 0];go_enter Tryz.func53,Tryz.ntmps53
 go_upto_region 1 with fail
 generalize ((((w.alloc _).alloc _).alloc _).alloc _).alloc _=w1 at kl kt kc kx ka da |-;have cl:=kl.cell;have cc:=kc.cell;go_wp2_with fail
 refine (HRo.out _ da).mono ?_;rintro e w2 ⟨vR,rfl,hR,ea⟩;replace kl:=ia kl ea;replace kt:=ia kt ea;replace kc:=ia kc ea;replace kx:=ia kx ea;replace ka:=ia ka ea;replace da:=oa da ea;clear ea cl cc HRo;obtain ⟨AR,nR,cR,rfl⟩:=RSl.slc hR;have hnR:nR=T:=by rw [<- (Ve hR).1];exact HRN.out.1
 subst hnR;have cl:=kl.cell;go_wp2_with fail
 refine (HLe.out _).mono ?_;rintro e w3 ⟨rfl,ea⟩;replace kl:=ia kl ea;replace kt:=ia kt ea;replace kc:=ia kc ea;replace kx:=ia kx ea;replace ka:=ia ka ea;replace da:=oa da ea;replace hR:=Gb ea hR;clear ea cl HLe;go_upto_region 3 with fail
 have kn:=Blk.new w3 168 #[.int .i64 L.k, .int .i64 t1, .int .i64 t2];have ma:=(Below.refl w3.heap.size w3).alloc zR (.cells #[.int .i64 L.k, .int .i64 t1, .int .i64 t2] 168);replace kl:=ia kl ma;replace kt:=ia kt ma;replace kc:=ia kc ma;replace kx:=ia kx ma;replace ka:=ia ka ma;replace da:=oa da ma;replace hR:=Gb ma hR;clear ma;generalize w3.alloc _=w4 at kl kt kc kx ka kn da hR |-;generalize w3.heap.size=gn at kn |-;have cl:=kl.cell;have ll:=kl.lt;have ct:=kt.cell;have lt:=kt.lt;have cc:=kc.cell;have lc:=kc.lt;have cx:=kx.cell;have lx:=kx.lt;have cn:=kn.cell;have ln:=kn.lt;refine Qt (Ib) [4,9,10,13,18,25,26,27,30,35,40,41,44,46] [46] [0,1,2,3,5,6,7,8,11,12,14,15,16,17,19,20,21,22,23,24,28,29,31,32,33,34,36,37,38,39,42,43,4,9,10,13,18,25,26,27,30,35,40,41,44,45,46] (by kernel_rfl) (by kernel_rfl) ?_
 refine Tt (xa) ?_;intro Wc Na ja;have ya:=Cc Na;replace ka:=ia ka ya;replace da:=oa da ya;replace hR:=Gb ya hR;clear ya;have Uq:=ta da h1;refine Ag ?_;refine fh (xa) rfl rfl rfl (fun _=>by go_simp <;> rfl) ((Ye.out _).mono ?_)
 rintro e w5 ⟨rfl,jb⟩;refine ⟨_,rfl,fun _=>jb,?_⟩
 replace ja:=(xa).trans _ _ _ ja (jb);simp only [Act.put,zLa,zLb,zLc];replace ka:=ia ka jb;replace da:=oa da jb;replace hR:=Gb jb hR;replace Uq:=ta jb Uq;clear jb;refine Ag ?_;refine fh (xa) rfl rfl rfl (fun _=>by go_simp <;> rfl) ((Xn.out _ _ _ hR).mono ?_)
 rintro e w6 ⟨v6,rfl,h6,Zb⟩;refine ⟨_,rfl,fun _=>Zb,?_⟩
 replace ja:=(xa).trans _ _ _ ja (Zb);simp only [Act.put,zLa,zLb,zLc];obtain ⟨A6,c6,rfl⟩:=Le h6;replace ka:=ia ka Zb;replace da:=oa da Zb;replace hR:=Gb Zb hR;replace Uq:=ta Zb Uq;clear Zb;refine Ag ?_;refine fh (xa) rfl rfl rfl (fun _=>by go_simp <;> rfl) ((HA.out _ _ _ _ _ _ _ _ _ Uq h6 (by omega) (by have:=s1.out;omega)).mono ?_)
 rintro e w7 ⟨v7,rfl,h7,Wa⟩;refine ⟨_,rfl,fun _=>Wa,?_⟩
 replace ja:=(xa).trans _ _ _ ja (Wa);simp only [Act.put,zLa,zLb,zLc];obtain ⟨A7,c7,rfl⟩:=Le h7;replace ka:=ia ka Wa;replace da:=oa da Wa;replace hR:=Gb Wa hR;clear Wa h6;refine Ag ?_;refine fh (xa) rfl rfl rfl (fun _=>by go_simp <;> rfl) ((HP.out _ _ _ L.k _ _ h7 (by have:=Dq.out co P1;have:=s1.out;have:=(Ra Uq).1;omega) (by omega)).mono ?_)
 rintro e w8 ⟨v8,rfl,o8,je⟩;refine ⟨_,rfl,fun _=>je,?_⟩
 replace ja:=(xa).trans _ _ _ ja (je);simp only [Act.put,zLa,zLb,zLc];obtain ⟨A8,c8,rfl,-⟩:=Ob o8;have hs8:=da.size;have hk8:=ka.lt;replace o8:=Pf o8 hk8;replace ka:=ia ka je;replace da:=oa da je;replace hR:=Gb je hR;clear je h7 Uq;refine Ag ?_;refine fh (xa) rfl rfl rfl (fun _=>by go_simp <;> rfl) ((Bh.out _ da).mono ?_)
 rintro e w9 ⟨v9,rfl,o9,Ke⟩;refine ⟨_,rfl,fun _=>Ke,?_⟩
 replace ja:=(xa).trans _ _ _ ja (Ke);simp only [Act.put,zLa,zLb,zLc];rw [Zt.out] at o9;obtain ⟨A9,c9,rfl,-⟩:=Ob o9;have h9:=qf o9 HMT.out;replace ka:=ia ka Ke;replace da:=oa da Ke;replace hR:=Gb Ke hR;replace o8:=Oa o8 Ke zR;clear Ke o9;refine Ag ?_;refine fh (xa) rfl rfl rfl (fun _=>by go_simp <;> rfl) ((HW.out _ da).mono ?_)
 rintro e Sm ⟨v10,rfl,h10,ui⟩;refine ⟨_,rfl,fun _=>ui,?_⟩
 replace ja:=(xa).trans _ _ _ ja (ui);simp only [Act.put,zLa,zLb,zLc];obtain ⟨A10,n10,c10,rfl⟩:=RSl.slc h10;have hn10:n10=nR:=by rw [<- (Ve h10).1];exact HRN.out.2
 subst hn10;replace ka:=ia ka ui;replace da:=oa da ui;replace hR:=Gb ui hR;replace o8:=Oa o8 ui zR;replace h9:=ta ui h9;clear ui;refine Ag ?_;refine fh (xa) rfl rfl rfl (fun _=>by go_simp <;> rfl) ((Jv.out _ _ _ _ _ hR h10).mono ?_)
 rintro e Lx ⟨v11,rfl,h11,Ty⟩;refine ⟨_,rfl,fun _=>Ty,?_⟩
 replace ja:=(xa).trans _ _ _ ja (Ty);simp only [Act.put,zLa,zLb,zLc];obtain ⟨A11,c11,rfl⟩:=Le h11;replace ka:=ia ka Ty;replace da:=oa da Ty;replace hR:=Gb Ty hR;replace o8:=Oa o8 Ty zR;replace h9:=ta Ty h9;clear Ty h10;refine Ag ?_;refine fh (xa) rfl rfl rfl (fun _=>by go_simp <;> rfl) ((HA.out _ _ _ _ _ _ _ _ _ h9 h11 (by have:=s4.out;omega) (by have:=s2.out;omega)).mono ?_)
 rintro e Mr ⟨v12,rfl,h12,EB⟩;refine ⟨_,rfl,fun _=>EB,?_⟩
 replace ja:=(xa).trans _ _ _ ja (EB);simp only [Act.put,zLa,zLb,zLc];obtain ⟨A12,c12,rfl⟩:=Le h12;replace ka:=ia ka EB;replace da:=oa da EB;replace hR:=Gb EB hR;replace o8:=Oa o8 EB zR;clear EB h9 h11;refine Ag ?_;refine fh (xa) rfl rfl rfl (fun _=>by go_simp <;> rfl) ((HP.out _ _ _ t1 _ _ h12 (by have:=Dq.out M2 P2;have:=s2.out;have:=s4.out;omega) (by omega)).mono ?_)
 rintro e w13 ⟨v13,rfl,Ql,FB⟩;refine ⟨_,rfl,fun _=>FB,?_⟩
 replace ja:=(xa).trans _ _ _ ja (FB);simp only [Act.put,zLa,zLb,zLc];obtain ⟨A13,c13,rfl,-⟩:=Ob Ql;have hs13:=da.size;have hk13:=ka.lt;replace Ql:=Pf Ql hk13;replace ka:=ia ka FB;replace da:=oa da FB;replace hR:=Gb FB hR;replace o8:=Oa o8 FB zR;clear FB h12;refine Ag ?_;refine fh (xa) rfl rfl rfl (fun _=>by go_simp <;> rfl) ((Vr.out _ da).mono ?_)
 rintro e w14 ⟨v14,rfl,h14,Uy⟩;refine ⟨_,rfl,fun _=>Uy,?_⟩
 replace ja:=(xa).trans _ _ _ ja (Uy);simp only [Act.put,zLa,zLb,zLc];obtain ⟨A14,c14,rfl⟩:=Le h14;replace ka:=ia ka Uy;replace da:=oa da Uy;replace hR:=Gb Uy hR;replace o8:=Oa o8 Uy zR;replace Ql:=Oa Ql Uy zR;clear Uy;refine Ag ?_;refine fh (xa) rfl rfl rfl (fun _=>by go_simp <;> rfl) ((HQ2.out _ _ _ hR).mono ?_)
 rintro e w15 ⟨v15,rfl,h15,Vy⟩;refine ⟨_,rfl,fun _=>Vy,?_⟩
 replace ja:=(xa).trans _ _ _ ja (Vy);simp only [Act.put,zLa,zLb,zLc];obtain ⟨A15,c15,rfl⟩:=Le h15;replace ka:=ia ka Vy;replace da:=oa da Vy;replace o8:=Oa o8 Vy zR;replace Ql:=Oa Ql Vy zR;replace h14:=ta Vy h14;clear Vy hR;refine Ag ?_;refine fh (xa) rfl rfl rfl (fun _=>by go_simp <;> rfl) ((HA.out _ _ _ _ _ _ _ _ _ h14 h15 (by have:=s5.out;omega) (by have:=s3.out;omega)).mono ?_)
 rintro e w16 ⟨v16,rfl,h16,GB⟩;refine ⟨_,rfl,fun _=>GB,?_⟩
 replace ja:=(xa).trans _ _ _ ja (GB);simp only [Act.put,zLa,zLb,zLc];obtain ⟨A16,c16,rfl⟩:=Le h16;replace ka:=ia ka GB;replace da:=oa da GB;replace o8:=Oa o8 GB zR;replace Ql:=Oa Ql GB zR;clear GB h14 h15;refine Ag ?_;refine fh (xa) rfl rfl rfl (fun _=>by go_simp <;> rfl) ((HP.out _ _ _ t2 _ _ h16 (by have:=Dq.out M3 P3;have:=s3.out;have:=s5.out;omega) (by omega)).mono ?_)
 rintro e w17 ⟨v17,rfl,ux,IB⟩;refine ⟨_,rfl,fun _=>IB,?_⟩
 replace ja:=(xa).trans _ _ _ ja (IB);simp only [Act.put,zLa,zLb,zLc];obtain ⟨A17,c17,rfl,-⟩:=Ob ux;have hs17:=da.size;have hk17:=ka.lt;replace ux:=Pf ux hk17;replace ka:=ia ka IB;replace da:=oa da IB;replace o8:=Oa o8 IB zR;replace Ql:=Oa Ql IB zR;clear IB h16 cl ll ct lt cc lc cx lx cn ln ja;have ja:=(xa).refl w17;obtain ⟨ca,fa⟩:=ka.cells';refine Ag ?_;refine Rh (xa) rfl rfl rfl ?_;go_simp;refine ⟨fun h=>Bool.noConfusion h,?_⟩
 have k3:=Lr ka (.slice A8 (Te (Pe L.p co P1) L.k).length c8) (.slice A13 (Te (Pe L.p M2 P2) t1).length c13) (.slice A17 (Te (Pe L.p M3 P3) t2).length c17);have hg:=vq (w:=w17) (g:=w.heap.size+1+1+1+1) (.slice A8 (Te (Pe L.p co P1) L.k).length c8) (.slice A13 (Te (Pe L.p M2 P2) t1).length c13) (.slice A17 (Te (Pe L.p M3 P3) t2).length c17);have Jl:=ka.lt;replace da:=Pb da hg;replace o8:=Hc o8 hg (by omega)
 replace Ql:=Hc Ql hg (by omega)
 replace ux:=Hc ux hg (by omega)
 generalize ((World.setCell _ _ _).setCell _ _).setCell _ _=wf at k3 da o8 Ql ux |-;clear ca fa ka hg ja;have ja:=(xa).refl wf;refine Ag ?_;refine Rt ?_;replace o8:=Pf o8 (base':=w.heap.size) (by omega)
 replace Ql:=Pf Ql (base':=w.heap.size) (by omega)
 replace ux:=Pf ux (base':=w.heap.size) (by omega)
 have c4:=k3.cell;go_wp2;exact bodyPost_ret (v:=.agg #[.slice A8 (Te (Pe L.p co P1) L.k).length c8, .slice A13 (Te (Pe L.p M2 P2) t1).length c13, .slice A17 (Te (Pe L.p M3 P3) t2).length c17]) (by simp [results,Tryz.results53,go_sem,c4]) rfl ⟨_,_,_,rfl,o8,Ql,ux,da⟩
theorem V5 {N:Nat}:∀ l:List Nat,(∀ i,N <= i -> l.getD i 0=0) -> (og l).length <= N:=by
 induction N with
 | zero =>
  intro l h;have:og l=[]:=by
   induction l with
   | nil=>rfl
   | cons x l ih =>
    have h1:=ih fun i _=>by have:=h (i+1) (by omega);simpa using this
    rw [og,if_pos ⟨h1,by have:=h 0 (by omega);simpa using this⟩]
  rw [this];simp
 | succ N ih =>
  intro l h;cases l with
  | nil=>simp [og]
  | cons x l =>
   have h1:=ih l fun i hi=>by have:=h (i+1) (by omega);simpa using this
   rw [og];split
   ·simp
   ·simp;exact h1
theorem U5 {p N:Nat} {l:List Nat} (h:∀ i,N <= i -> l.getD i 0%p=0):(Ui p l).length <= N :=
 V5 _ fun i hi=>by rw [MH];exact h i hi
theorem BU {p N:Nat} {a b:List Nat} (h:∀ i,N <= i -> (a.getD i 0+b.getD i 0)%p=0):(Pe p a b).length <= N:=by
 unfold Pe;refine U5 fun i hi=>?_
 rw [Qf];split
 ·unfold pn
  rw [Nat.mod_mod];exact h i hi
 ·exact Nat.zero_mod _
theorem iT {c n i:Nat}:(xj [c] n).getD i 0=if i=n then c else 0:=by
 rw [iD];split
 ·rw [if_neg (by omega)]
 ·by_cases h:i=n
  ·rw [if_pos h,h,Nat.sub_self];rfl
  ·rw [if_neg h,ym (by simp;omega)]
theorem JQ {p:Nat} (a b:List Nat):∀ k,(∀ i,i<k -> a.getD i 0=0) -> ∀ i,(xg p a b k).getD i 0=0
 | 0,_,i=>by simp [xg]
 | k+1,h,i=>by
  rw [IQ a b k i (h k (by omega)),JQ a b k (fun i hi=>h i (by omega)) i]
  exact Nat.zero_mod _
theorem bY {p c n:Nat} (b:List Nat) (i:Nat):(Be p (xj [c] n) b).getD i 0=(if i<n then 0 else b.getD (i-n) 0*c%p)%p:=by
 unfold Be;rw [JI];show (xg p (xj [c] n) b (n+1)).getD i 0=_
 have h0:=JQ (p:=p) (xj [c] n) b n (fun i hi=>by rw [iT,if_neg (by omega)]) i
 rw [xg,Jk,h0,iD,iT,if_pos rfl,Nat.zero_add];split
 ·rfl
 ·rw [Hz]
theorem CV {p:Nat} (hp:ab p=true) {a b:List Nat} (hb:0<b.length) (Wq:b.length <= a.length) (hz:¬Cg p ((b.getD (b.length-1) 0:Nat):Int) 0) :
  (yj p a (Be p (xj [a.getD (a.length-1) 0*(b.getD (b.length-1) 0^(p-2)%p)%p] (a.length-b.length)) b)).length <= a.length-1:=by
 have Ed:=Va hp;obtain ⟨c,hc⟩:=zEX (a.getD (a.length-1) 0*(b.getD (b.length-1) 0^(p-2)%p)%p);have hinv:=QF hp hz;rw [<- hc];unfold yj;refine BU fun i hi=>?_
 refine Cg.eq (p:=p) (b:=0) ?_ (Nat.mod_lt _ (by omega)) (by omega)
 have h1:=BP (p:=p) (by omega) a (Be p (xj [c] (a.length-b.length)) b) i
 unfold yj at h1;rw [Jk] at h1;refine h1.trans ?_;rw [bY,if_neg (by omega)]
 by_cases Yg:i=a.length-1
 ·subst Yg
  rw [show a.length-1-(a.length-b.length)=b.length-1 by omega]
  have h2:Cg p (((b.getD (b.length-1) 0*c%p%p:Nat)):Int) (a.getD (a.length-1) 0:Int):=by
   refine (Cg.mod _).trans ((KA _ _).trans ?_);rw [hc];refine (Cg.rfl'.mul (KA _ _)).trans ?_;rw [show ((b.getD (b.length-1) 0:Nat):Int)*(((a.getD (a.length-1) 0:Nat):Int)*((b.getD (b.length-1) 0^(p-2)%p:Nat):Int))=((b.getD (b.length-1) 0:Nat):Int)*((b.getD (b.length-1) 0^(p-2)%p:Nat):Int)*((a.getD (a.length-1) 0:Nat):Int) by rw [Int.mul_left_comm,Int.mul_comm]]
   exact (hinv.mul Cg.rfl').trans (Cg.of_eq (Int.one_mul _))
  exact (Cg.rfl'.less h2).trans (Cg.of_eq (Int.sub_self _))
 ·rw [ym (l:=a) (by omega),ym (l:=b) (by omega)]
  exact Cg.of_eq (by simp)
theorem p7 {p b:Nat} (hp:1<p) (hb:0<b):Ui p (De p b)=De p b:=by
 have e1:(De p b).map (·%p)=De p b:=by
  unfold De;rw [List.map_map];refine List.map_congr_left fun i _=>Nat.mod_eq_of_lt (vU hp i)
 unfold Ui;rw [e1];unfold De;rw [List.range_succ,List.map_append];refine pN ?_ _;unfold Qr;rw [if_neg (by omega),if_pos rfl]
 omega
theorem m7 {p b:Nat} (hb:0<b):(De p b).getD ((De p b).length-1) 0=1:=by
 rw [Ut];unfold De;rw [Qf,if_pos (by omega)]
 unfold Qr;rw [if_neg (by omega),if_pos (by omega)]
theorem Yu {w:World} {v:Value} {l:List Nat} (h:RWd w [v] l):∃ A n c,v= .slice A n c:=by
 obtain ⟨A,n,c,he,-⟩:=id h;simp at he
 exact ⟨A,n,c,he⟩
theorem xZ (L:Ja) (A B:Option Addr) (n c m d:Nat) (a:List Nat) (w:World) (hL:Db L) (ha:RWd w [.slice A n c] a) (hn:n <= 10000) (hb:RWd w [.slice B m d] (De L.p L.block)) :
  Calls Tryz.prog 201 #[.int .u64 L.p, .slice A n c, .slice B m d] w fun e w'=>∃ A1 n1 c1 q A2 n2 c2,e= .returned (.tuple #[.slice A1 n1 c1, .slice A2 n2 c2]) /\ RWd w' [.slice A1 n1 c1] q /\ n1 <= n+1 /\ Below w.heap.size w w':=by
 have hp:=Va hL.p;have Ga:=hL.b1;have Ka:=hL.b2;obtain ⟨p,Mo⟩:=zEX (L.p);obtain ⟨Z,hZ⟩:=zEX (De L.p L.block);have Ta:ab p=true:=by rw [Mo];exact hL.p
 have HT1:=zH (bG p A n c a w Ta ha (by omega))
 have HTL:=zH (show (Ui p a).length <= n from Nat.le_trans (QI p a) (by rw [(Ra ha).1];exact zR))
 have hZl:Z.length=L.block+1:=by rw [hZ,Ut]
 have Dh:=zH (fun w' (If:Below w.heap.size w w')=>by
  have:=bG p B m d Z w' Ta (by rw [hZ];exact ta If hb) (by have:=(Ra hb).1;rw [<- hZ] at this;omega)
  rw [show Ui p Z=Z by rw [hZ,Mo];exact p7 (by omega) (by omega)] at this
  exact this)
 have Vj:=zH (fun x w=>aG p x w Ta)
 have jA:=zH (fun x y w=>Rn p x y w Ta)
 have HSh:=zH (fun A n c m l w hl hn hm=>yS A n c m l w hl hn hm)
 have HAd:=zH (fun A B n c m d a b w ha hb hn hm=>Ex p A B n c m d a b w Ta ha hb hn hm)
 have HMp:=zH (fun A B n c m d a b w ha hb hn hm=>WC p A B n c m d a b w Ta ha hb hn hm)
 have HSb:=zH (fun A B n c m d a b w ha hb hn hm=>BS p A B n c m d a b w Ta ha hb hn hm)
 have uz:Z.getD (Z.length-1) 0=1:=by rw [hZ];exact m7 (by omega)
 have Iv:=zH (fun (x:List Nat) (h:Z.length <= x.length)=>CV Ta (a:=x) (b:=Z) (by omega) h (by
  rw [uz];exact fun hc=>SH Ta hc.symm))
 rw [uz] at Iv;obtain ⟨iv,hiv⟩:=zEX (1^(p-2)%p);have Di:=zH (fun w=>by have:=Vj.out 1 w;rw [<- hiv] at this;exact this)
 rw [<- hiv] at Iv;have HP:=zH hp.2;rw [<- Mo] at HP;have Xi:0<p:=by omega
 obtain ⟨a0,ha0⟩:=zEX (Ui p a);rw [<- ha0] at HT1 HTL;have HZL:=zH uz;obtain ⟨zl,hzle⟩:=zEX (Z.length);have HZE:=zH hzle;have fe:2 <= zl:=by omega
 have sh:zl <= 300:=by omega
 rw [<- Mo];clear Mo hZ Ta hZl ha hb Ga Ka hp hL uz hiv ha0 hzle Vj;go_enter Tryz.func201,Tryz.ntmps201
 go_wp2_with fail
 refine (HT1.out).mono ?_;rintro e w1 ⟨v1,rfl,h1,da⟩;obtain ⟨A1,n1,c1,rfl⟩:=Yu h1;go_wp2_with fail
 refine (Dh.out _ da).mono ?_;rintro e w2 ⟨v2,rfl,h2,ea⟩;replace h1:=ta ea h1;replace da:=oa da ea;clear ea HT1 Dh;obtain ⟨A2,n2,c2,rfl⟩:=Yu h2;have e1:=(Ra h1).1;have e2:=(Ra h2).1;have ez:zl=n2:=by rw [e2];exact HZE.out
 subst ez;obtain ⟨zm,hzm⟩:=zEX (zl-1);obtain ⟨b,q,rfl,Wb,hc⟩:=Vd (show Rd w2 1 A2 Z.length (Fa Z) by rw [<- HZE.out];exact (Ra h2).2.2.2.2) (show zm<Z.length by rw [<- HZE.out];omega)
 have g1:(zl:Int)-1=(zm:Int):=by omega
 have g2:=Yb zm;have g3:(0:Int) <= (zm:Int):=by omega
 have g4:(zm:Int)<(zl:Int):=by omega
 rw [show Z.getD zm 0=1 by rw [hzm,HZE.out];exact HZL.out] at hc
 have Jg:=zH (show n1 <= n by have:=HTL.out;omega)
 have HNB:=zH hn;clear hzm e1 e2 HTL hn;go_wp2_with fail
 refine (Di.out _).mono ?_;rintro e w3 ⟨rfl,ea⟩;replace h1:=ta ea h1;replace h2:=ta ea h2;replace da:=oa da ea;clear ea Di hc Wb g1 g2 g3 g4;go_wp2_with fail
 go_loopw [1,8] (fun x1 x8 wr=>∃ (D1 D8:Option Addr) (k1 f1 k8 f8:Nat) (l1 l8:List Nat),x1= .slice D1 k1 f1 /\ x8= .slice D8 k8 f8 /\ k1 <= n /\ k8 <= n+1 /\ RWd wr [.slice D1 k1 f1] l1 /\ RWd wr [.slice D8 k8 f8] l8 /\ RWd wr [.slice (some ⟨b,q,none⟩) zl c2] Z /\ Below w.heap.size w wr) (fun v _ _=>match v with | .slice _ n _=>n | _=>0)
 case atStart=>exact ⟨_,_,_,_,_,_,_,[],rfl,rfl,Jg.out,Nat.zero_le _,h1,GI _,h2,da⟩
 case round =>
  clear h1 h2 da;obtain ⟨D1,D8,k1,f1,k8,f8,l1,l8,rfl,rfl,Ld,hk8,h1,h8,h2,da⟩:=hrel;have el1:=(Ra h1).1;have gm1:(k1:Int) <= 10000:=by have:=HNB.out;omega
  have gz:(zl:Int) <= 300:=by omega
  by_cases hle:zl <= k1
  ·obtain ⟨dn,hdn⟩:=zEX (k1-zl)
   obtain ⟨km,hkm⟩:=zEX (k1-1);have g1:(k1:Int)-(zl:Int)=(dn:Int):=by omega
   have g2:=Yb dn;have g3:(k1:Int)-1=(km:Int):=by omega
   have g4:=Yb km;have g5:(0:Int) <= (km:Int):=by omega
   have g6:(km:Int)<(k1:Int):=by omega
   have d1:decide ((zl:Int) <= (k1:Int))=true:=decide_eq_true (by omega)
   obtain ⟨b1,q1,rfl,Wb,hc⟩:=Vd (show Rd wr 1 D1 l1.length (Fa l1) by rw [<- el1];exact (Ra h1).2.2.2.2) (show km<l1.length by omega)
   obtain ⟨x,hx⟩:=zEX (l1.getD km 0);obtain ⟨y,hy⟩:=zEX (x*iv%p);have HY:=zH (fun w=>by have:=jA.out x iv w;rw [<- hy] at this;exact this)
   have hyp:y<18446744073709551616:=by
    rw [hy];exact Nat.lt_trans (Nat.mod_lt _ Xi) HP.out
   rw [<- hx] at hc;have Xc:=zH (show (yj p l1 (Be p (xj [y] dn) Z)).length <= km by
    have h3:=Iv.out l1 (by rw [<- HZE.out,<- el1];exact hle)
    rw [<- el1,<- HZE.out,<- hkm,<- hdn,<- hx,<- hy] at h3;exact h3)
   have HLE:=zH (And.intro hdn (And.intro hkm hle));clear hdn hkm hx hy hle el1;go_wp2_with fail
   refine (HY.out _).mono ?_;rintro e wa ⟨rfl,ea⟩;replace h1:=ta ea h1;replace h8:=ta ea h8;replace h2:=ta ea h2;replace da:=oa da ea;clear ea hc Wb;have ma:=(Below.refl wa.heap.size wa).alloc zR (.cells #[.int .u64 y] 22);have ks:=Blk.new wa 22 #[.int .u64 y];have hx:RWd _ [.slice (some ⟨wa.heap.size,0,none⟩) 1 1] [y]:=BL (l:=[y]) ks rfl (by simpa using hyp) (by simp [maxLen])
   replace h1:=ta ma h1;replace h8:=ta ma h8;replace h2:=ta ma h2;replace da:=oa da ma;clear ma ks;go_wp2_with fail
   generalize wa.alloc _=wb at h1 h8 h2 da hx |-;refine (HSh.out _ _ _ dn [y] _ hx (by omega) (by omega)).mono ?_
   rintro e wc ⟨v,rfl,ho,ea⟩;obtain ⟨dk,hdk⟩:=zEX (dn+1);rw [<- hdk] at ho;have HDK:=zH hdk;have hdk2:dk <= n+1 /\ dk <= 20000:=by have:=HLE.out;have:=HNB.out;omega
   clear hdk;obtain ⟨A5,c5,rfl,-⟩:=Ob ho;have rz:=qf ho (fun z hz=>by
    rcases List.mem_append.1 (show z∈List.replicate dn 0++[y] from hz) with hz | hz
    ·rw [(List.mem_replicate.1 hz).2];decide
    ·simp at hz;rw [hz];exact hyp)
   replace h1:=ta ea h1;replace h8:=ta ea h8;replace h2:=ta ea h2;replace da:=oa da ea;clear ea ho hx;obtain ⟨T,hT⟩:=zEX (xj [y] dn);rw [<- hT] at rz Xc;clear hT;go_wp2_with fail
   refine (HAd.out _ _ _ _ _ _ _ _ _ h8 rz (by have:=HNB.out;omega) (by omega)).mono ?_
   rintro e wd ⟨v,rfl,rB,ea⟩;obtain ⟨A6,n6,c6,rfl⟩:=Yu rB;have hn6:n6 <= n+1:=by
    have z1:=(Ra rB).1;have z2:=nn p l8 T;have z3:=(Ra h8).1;have z4:=(Ra rz).1;have:=HLE.out;omega
   replace h1:=ta ea h1;replace rz:=ta ea rz;replace h2:=ta ea h2;replace da:=oa da ea;clear ea h8;go_wp2_with fail
   refine (HMp.out _ _ _ _ _ _ _ _ _ rz h2 (by omega) (by omega)).mono ?_
   rintro e we ⟨v,rfl,ah,ea⟩;obtain ⟨A7,n7,c7,rfl⟩:=Yu ah;have hn7:n7 <= 30000:=by
    have z1:=(Ra ah).1;have z2:=Dr p T Z;have z3:=(Ra rz).1;have z4:=(Ra h2).1;omega
   replace h1:=ta ea h1;replace rB:=ta ea rB;replace h2:=ta ea h2;replace da:=oa da ea;clear ea rz;go_wp2_with fail
   refine (HSb.out _ _ _ _ _ _ _ _ _ h1 ah (by omega) (by omega)).mono ?_
   rintro e wf ⟨v,rfl,Uq,ea⟩;obtain ⟨A9,n9,c9,rfl⟩:=Yu Uq;have hn9:n9 <= km:=by rw [(Ra Uq).1];exact Xc.out
   have HN9:=zH hn9;have HN6:=zH hn6;replace rB:=ta ea rB;replace h2:=ta ea h2;replace da:=oa da ea;clear ea h1 ah hn6 hn7 hn9 hdk2;go_wp2_with fail
   go_roundw
   case rel=>exact ⟨_,_,_,_,_,_,_,_,rfl,rfl,by have:=HN9.out;have:=HLE.out;omega,HN6.out,Uq,rB,h2,da⟩
   case measure=>have:=HN9.out;have:=HLE.out;simp;omega
  ·go_wp2
   go_ret2
   exact ⟨_,_,_,_,_,_,_,rfl,h8,hk8,da⟩
theorem J0 (p:Nat) (A:Option Addr) (n c:Nat) (l:List Nat) (w:World) (hp:ab p=true) (hl:RWd w [.slice A n c] l) (hn:n <= 100000) :
  Calls Tryz.prog 207 #[.int .u64 p, .slice A n c] w fun e w'=>∃ v,e= .returned v /\ Jc w.heap.size none w' v (Ui p l) /\ Below w.heap.size w w':=by
 obtain ⟨rfl,h1,h2,za,La⟩:=Ra hl;obtain ⟨jc,Kb⟩:=Va hp;have HA:=zH (fun a w=>pI p a w hp)
 have HM:=zH (show ∀ x∈l.map (·%p),x<18446744073709551616 from fun x hx=>by obtain ⟨y,-,rfl⟩:=List.mem_map.1 hx;exact Nat.lt_trans (Nat.mod_lt _ (by omega)) Kb)
 have HT:=zH (show Ui p l=og (l.map (·%p)) from rfl)
 rw [HT.out];obtain ⟨L,hL⟩:=zEX (l.map (·%p))
 have Wm:=zH (show L.length=l.length by rw [hL];simp)
 have fA:=zH (show ∀ k,L.getD k 0=l.getD k 0%p from fun k=>by rw [hL];exact MH p l k)
 rw [<- hL] at HM |-;clear hl h1 h2 hp za jc Kb hL HT;go_enter Tryz.func207,Tryz.ntmps207
 go_wp2_with fail
 go_loopw [5,6] (fun v i wr=>∃ k:Nat,k <= l.length /\ i= .int .i64 k /\ wr.ownsRow w.heap.size 22 1 v k (Fa (L.take k)) /\ Below w.heap.size w wr) (fun _ i _=>l.length-(intOf i).toNat)
 case atStart=>exact ⟨0,Nat.zero_le _,rfl,⟨rfl, .inl ⟨rfl,rfl⟩⟩,Below.refl _ _⟩
 case round =>
  obtain ⟨k,hk,rfl,ra,hb⟩:=hrel;by_cases za:k<l.length
  ·obtain ⟨b,q,rfl,Wb,hc⟩:=Vd (La.below hb) za
   have HF:=zH (Pu L k (by rw [Wm.out];exact za)).symm
   have HG:=zH (fA.out k);obtain ⟨x,hx⟩:=zEX (l.getD k 0);obtain ⟨z,hz⟩:=zEX (L.getD k 0);rw [<- hx] at hc HG;rw [<- hz] at HF HG;have Xd:=zH (fun w=>by have:=HA.out x w;rw [<- HG.out] at this;exact this)
   clear hx hz HG;go_wp2_with fail
   refine (Xd.out _).mono ?_;rintro e w2 ⟨rfl,ea⟩;replace hb:=oa hb ea;replace ra:=Oa ra ea zR;clear ea;go_wp2_with (at_builtin;refine Mf rfl _ _ rfl xf rfl (ra.alloc _) rfl (Lf _ _ _) (mg [z]) (by omega) (by simp;have:=hb.size;omega) ?_)
   intro v' wn db Ma Lb;have ma:=(Below.refl w2.heap.size w2).alloc zR (.cells #[.int .u64 z] 22);have hB:=Ae (ra.alloc _) Ma (by simp;have:=hb.size;omega)
   replace hb:=(Uh hb ma hb.size).trans hB;replace ra:wn.ownsRow w.heap.size 22 1 v' (k+1) (Fa (L.take (k+1))):=Qi (b:=[z]) db HF.out;clear db Ma Lb ma hB;go_wp2
   go_roundw
   case rel=>exact ⟨k+1,by omega,by go_num,ra,hb⟩
   case measure=>simp [intOf];omega
  ·obtain rfl:k=l.length:=by omega
   rw [List.take_of_length_le (by have:=Wm.out;omega)] at ra
   obtain ⟨A1,c1,rfl,Lg,Xg,Qe,-⟩:=Ob ra;have how:=ra;clear ra La;have XD:Rd wr 1 A1 L.length (Fa L):=by rw [Wm.out];exact Qe
   clear Qe hk za;obtain ⟨w1,ai⟩:=zEX (wr);rw [<- ai] at hb XD how;have HOW:=zH how;clear how;have HW:=zH ai;clear ai;go_wp2_with fail
   go_loopw [5] (fun v wr=>∃ k:Nat,k <= l.length /\ v= .slice A1 k c1 /\ Hid (og (L.take k)=og L) /\ Below w1.heap.size w1 wr) (fun v _=>match v with | .slice _ n _=>n | _=>0)
   case atStart=>exact ⟨l.length,zR,rfl,zH (by rw [List.take_of_length_le (by have:=Wm.out;omega)]),by rw [HW.out];exact Below.refl _ _⟩
   case round =>
    obtain ⟨k,hk,rfl,HZ,Ga⟩:=hrel;rcases Nat.eq_zero_or_pos k with h0 | h0
    ·subst h0
     go_wp2;go_ret
     refine ⟨_,rfl,?_,oa hb Ga⟩;have hz:og L=[]:=by rw [<- HZ.out];rfl
     rw [hz];exact fun u _=>⟨A1,0,c1,rfl,Nat.zero_le _,Xg,⟨rfl,fun h=>absurd h (by omega)⟩,fun x hx=>by cases hx⟩
    ·obtain ⟨j,hj⟩:=zEX (k-1)
     have PB:j<L.length:=by have:=Wm.out;omega
     obtain ⟨b,q,rfl,Wb,hc⟩:=Vd (XD.below Ga) PB;obtain ⟨x,hx⟩:=zEX (L.getD j 0);rw [<- hx] at hc;have HX:=zH hx;have HJ:=zH hj;have g1:(0:Int)<(k:Int):=by omega
     have g2:(k:Int)-1=(j:Int):=by omega
     have g3:=Yb j;have g4:(j:Int)<(k:Int):=by omega
     have g5:j<k:=by omega
     have g6:j <= c1:=by omega
     have g7:k <= c1:=by omega
     clear hx hj;by_cases jj:x=0
     ·subst jj
      go_wp2
      go_roundw
      case rel=>exact ⟨j,by omega,rfl,zH (by rw [<- HZ.out,show k=j+1 by have:=HJ.out;omega,NT PB HX.out.symm]),Ga⟩
      case measure=>simp;omega
     ·have d0:((x:Int) == 0)=false:=by rw [beq_eq_false_iff_ne];omega
      go_wp2;go_ret
      refine ⟨_,rfl,?_,oa hb Ga⟩;have Ld:k=j+1:=by have:=HJ.out;omega
      have hz:og L=L.take k:=by rw [<- HZ.out,Ld,OT PB (by rw [<- HX.out];exact jj)]
      rw [hz];intro u hu;exact gG (qf (Xl.own_agree' (Oa HOW.out Ga zR) (fun b h1 h2=>hu b h1 h2 (fun e=>by cases e))) HM.out) (by omega)
theorem oZ (p:Nat) (A B:Option Addr) (n c m d:Nat) (a b:List Nat) (w:World) (hp:ab p=true) (ha:RWd w [.slice A n c] a) (If:RWd w [.slice B m d] b) (hn:n <= 100000) (hm:m <= 100000) :
  Calls Tryz.prog 128 #[.int .u64 p, .slice A n c, .slice B m d] w fun e w'=>∃ v,e= .returned v /\ Jc w.heap.size none w' v (Pe p a b) /\ Below w.heap.size w w':=by
 obtain ⟨rfl,-,-,-,-⟩:=Ra ha;obtain ⟨rfl,-,-,-,-⟩:=Ra If;obtain ⟨jc,Kb⟩:=Va hp;have HA:=zH (fun i w' (hb:Below w.heap.size w w')=>iI A a.length c i a w' (ta hb ha))
 have HB:=zH (fun i w' (hb:Below w.heap.size w w')=>iI B b.length d i b w' (ta hb If))
 have HS:=zH (fun x y w=>Kr p x y w hp)
 have HT:=zH (fun A n c l w hl hn=>J0 p A n c l w hp hl hn)
 have HL:=zH (show ∀ N,∀ x∈(List.range N).map (pn p a b),x<18446744073709551616 from fun N x hx=>by obtain ⟨y,-,rfl⟩:=List.mem_map.1 hx;exact Nat.lt_trans (ZN (by omega) a b y) Kb)
 obtain ⟨t,ht⟩:=zEX (max a.length b.length);have HE:=zH (show Pe p a b=Ui p ((List.range t).map (pn p a b)) by rw [ht];rfl)
 rw [HE.out];have HN:=zH (fun k=>It (pn p a b) k)
 have HR:=zH (fun k=>show pn p a b k=(a.getD k 0+b.getD k 0)%p from rfl)
 clear ha If hp jc Kb HE;generalize pn p a b=f at *;go_enter Tryz.func128,Tryz.ntmps128
 go_wp2_with fail
 go_loopw [7,8] (fun v i wr=>∃ k:Nat,k <= t /\ i= .int .i64 k /\ wr.ownsRow w.heap.size 22 1 v k (Fa ((List.range k).map f)) /\ Below w.heap.size w wr) (fun _ i _=>t-(intOf i).toNat)
 case atStart=>exact ⟨0,Nat.zero_le _,rfl,⟨rfl, .inl ⟨rfl,rfl⟩⟩,Below.refl _ _⟩
 case round =>
  obtain ⟨k,hk,rfl,ra,hb⟩:=hrel;by_cases za:k<t
  ·have Xd:=zH (fun w=>HA.out k w)
   have HB1:=zH (fun w=>HB.out k w)
   have oo:=zH (HR.out k);generalize a.getD k 0=x at *;generalize b.getD k 0=y at *;have Jg:=zH (HN.out k);obtain ⟨z,hz⟩:=zEX (f k);have Ef:=zH (fun w=>by have:=HS.out x y w;rw [<- oo.out,<- hz] at this;exact this)
   rw [<- hz] at Jg;clear hz oo;rcases (show k<a.length \/ (¬k<a.length /\ k<b.length) by omega) with h | ⟨h,h'⟩
   ·have g1:(k:Int)<(a.length:Int):=by omega
    clear ht;go_wp2_with fail
    refine (Xd.out _ hb).mono ?_;rintro e w2 ⟨rfl,ea⟩;replace hb:=oa hb ea;replace ra:=Oa ra ea zR;clear ea;go_wp2_with fail
    refine (HB1.out _ hb).mono ?_;rintro e w3 ⟨rfl,ea⟩;replace hb:=oa hb ea;replace ra:=Oa ra ea zR;clear ea;go_wp2_with fail
    refine (Ef.out _).mono ?_;rintro e w4 ⟨rfl,ea⟩;replace hb:=oa hb ea;replace ra:=Oa ra ea zR;clear ea;go_wp2_with (at_builtin;refine Mf rfl _ _ rfl xf rfl (ra.alloc _) rfl (Lf _ _ _) (mg [z]) (by omega) (by simp;have:=hb.size;omega) ?_)
    intro v' wn db Ma Lb;have ma:=(Below.refl w4.heap.size w4).alloc zR (.cells #[.int .u64 z] 22);have hB:=Ae (ra.alloc _) Ma (by simp;have:=hb.size;omega)
    replace hb:=(Uh hb ma hb.size).trans hB;replace ra:wn.ownsRow w.heap.size 22 1 v' (k+1) (Fa ((List.range (k+1)).map f)):=Qi (b:=[z]) db Jg.out;clear db Ma Lb ma hB;go_wp2
    go_roundw
    case rel=>exact ⟨k+1,by omega,by go_num,ra,hb⟩
    case measure=>simp [intOf];omega
   ·have g1:¬((k:Int)<(a.length:Int)):=by omega
    have g2:(k:Int)<(b.length:Int):=by omega
    clear ht;go_wp2_with fail
    refine (Xd.out _ hb).mono ?_;rintro e w2 ⟨rfl,ea⟩;replace hb:=oa hb ea;replace ra:=Oa ra ea zR;clear ea;go_wp2_with fail
    refine (HB1.out _ hb).mono ?_;rintro e w3 ⟨rfl,ea⟩;replace hb:=oa hb ea;replace ra:=Oa ra ea zR;clear ea;go_wp2_with fail
    refine (Ef.out _).mono ?_;rintro e w4 ⟨rfl,ea⟩;replace hb:=oa hb ea;replace ra:=Oa ra ea zR;clear ea;go_wp2_with (at_builtin;refine Mf rfl _ _ rfl xf rfl (ra.alloc _) rfl (Lf _ _ _) (mg [z]) (by omega) (by simp;have:=hb.size;omega) ?_)
    intro v' wn db Ma Lb;have ma:=(Below.refl w4.heap.size w4).alloc zR (.cells #[.int .u64 z] 22);have hB:=Ae (ra.alloc _) Ma (by simp;have:=hb.size;omega)
    replace hb:=(Uh hb ma hb.size).trans hB;replace ra:wn.ownsRow w.heap.size 22 1 v' (k+1) (Fa ((List.range (k+1)).map f)):=Qi (b:=[z]) db Jg.out;clear db Ma Lb ma hB;go_wp2
    go_roundw
    case rel=>exact ⟨k+1,by omega,by go_num,ra,hb⟩
    case measure=>simp [intOf];omega
  ·obtain rfl:k=t:=by omega
   have g1:¬((k:Int)<(a.length:Int)):=by omega
   have g2:¬((k:Int)<(b.length:Int)):=by omega
   have Ih:k <= 100000:=by omega
   obtain ⟨A1,c1,rfl,Lg,Xg,Qe,-⟩:=Ob ra;have ir:=qf ra (HL.out k);clear ht ra Qe;go_wp2_with fail
   refine (HT.out _ _ _ _ _ ir Ih).mono ?_;rintro e w5 ⟨v,rfl,hv,ea⟩;go_wp2;go_ret
   exact ⟨_,rfl,fp hv hb.size,oa hb ea⟩
theorem ZZ (p:Nat) (A B:Option Addr) (n c m d:Nat) (a b:List Nat) (w:World) (hp:ab p=true) (ha:RWd w [.slice A n c] a) (hb:RWd w [.slice B m d] b) (hn:n <= 100000) (hm:m <= 100000) :
  Calls Tryz.prog 199 #[.int .u64 p, .slice A n c, .slice B m d] w fun e w'=>∃ v,e= .returned v /\ Jc w.heap.size none w' v (yj p a b) /\ Below w.heap.size w w':=by
 have Wb:=(Ra hb).1;have HN:=zH (fun w=>mI p 1 w hp)
 have sA:=zH (fun A n c s l w hl hn=>nE p A n c s l w hp hl hn)
 have HA:=zH (fun A B n c m d a b w ha hb hn hm=>oZ p A B n c m d a b w hp ha hb hn hm)
 have HL:=zH (show (xh p b (oc p 1)).length <= 100000 by have:=uq p b (oc p 1);omega)
 obtain ⟨x,hx⟩:=zEX (oc p 1);unfold yj;rw [<- hx] at HN HL |-;clear hx Wb hp;go_enter Tryz.func199,Tryz.ntmps199
 go_wp2_with fail
 refine (HN.out _).mono ?_;rintro e w1 ⟨rfl,Ga⟩;have Qy:=ta Ga ha;have DK:=ta Ga hb;go_wp2_with fail
 refine (sA.out _ _ _ x _ _ DK (by omega)).mono ?_
 rintro e w2 ⟨v2,rfl,h2,Ka⟩;have ha2:=ta Ka Qy;obtain ⟨A2,c2,rfl⟩:=Le h2;go_wp2_with fail
 refine (HA.out _ _ _ _ _ _ _ _ _ ha2 h2 (by omega) (by have:=HL.out;omega)).mono ?_
 rintro e w3 ⟨v3,rfl,h3,ib⟩;go_wp2;go_ret
 exact ⟨_,rfl,fp h3 (oa Ga Ka).size,oa (oa Ga Ka) ib⟩
end Go.Proofs.YtgeofabpinfcmaaGreat
