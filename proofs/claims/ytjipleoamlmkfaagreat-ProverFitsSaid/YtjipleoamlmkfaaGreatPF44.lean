/- A part of the proof. No condition. -/
import Derived.Test.YtjipleoamlmkfaaGreatProg
import Derived.Test.YtjipleoamlmkfaaGreatPF24
import Derived.Test.YtjipleoamlmkfaaGreatPF30
import Derived.Test.YtjipleoamlmkfaaGreatPF17

set_option maxRecDepth 100000
set_option maxHeartbeats 8000000
set_option linter.unusedVariables false
set_option linter.unusedSimpArgs false
namespace Go.Proofs.YtjipleoamlmkfaaGreat
open Go.RowKit
def Bo (N:Nat) (w:World) (xs:Nat -> Value) (n:Nat -> Nat) (vals:Nat -> List Nat):Prop :=
 (∀ j,j<3 -> w.ownsRow N 22 1 (xs j) (n j) (Ca ((vals j).take (n j)))) /\
 ∀ j i,j<3 -> i<3 -> j≠i -> ∀ q,(xs j).ownBlock=some q -> (xs i).ownBlock=some q -> False
theorem OB {N:Nat} {w w':World} {xs:Nat -> Value} {n:Nat -> Nat} {vals:Nat -> List Nat} (h:Bo N w xs n vals) (hb:Below w.heap.size w w'):Bo N w' xs n vals :=
 ⟨fun j hj=>db (h.1 j hj) hb zR,h.2⟩
theorem mR {N B:Nat} {w w':World} {xs:Nat -> Value} {n:Nat -> Nat} {vals:Nat -> List Nat} (h:Bo N w xs n vals) (hg:w.grownBy w' (some B)) (hB:B<N):Bo N w' xs n vals :=
 ⟨fun j hj=>Ze (h.1 j hj) hg hB,h.2⟩
theorem lR {N k:Nat} {w w':World} {xs:Nat -> Value} {n:Nat -> Nat} {vals:Nat -> List Nat} {x:Value} (h:Bo N w xs n vals) (hk:k<3) (ho:w'.ownsRow N 22 1 x (n k+1) (Ca ((vals k).take (n k+1)))) (hg:w.grownBy w' (xs k).ownBlock) (hb:x.ownBlock=(xs k).ownBlock \/ x.ownBlock=some w.heap.size):Bo N w' (Wk xs k x) (fun j=>if j=k then n k+1 else n j) vals:=by
 refine ⟨fun j hj=>?_,fun j i hj hi Ka q h1 h2=>?_⟩
 ·by_cases e:j=k
  ·subst e;simp only [Wk,if_true];exact ho
  ·simp only [Wk,if_neg e]
   exact tJ (h.1 j hj) hg fun q h1 h2=>h.2 j k hj hk e q h1 h2
 ·by_cases e:j=k
  ·subst e
   have e2:¬i=j:=fun e2=>Ka e2.symm
   rw [Wk,if_pos rfl] at h1;rw [Wk,if_neg e2] at h2;exact vA (h.1 i hi) (h.2 j i hj hi Ka) hb q h1 h2
  ·rw [Wk,if_neg e] at h1
   by_cases e2:i=k
   ·subst e2
    rw [Wk,if_pos rfl] at h2;exact vA (h.1 j hj) (h.2 i j hi hj (fun e=>Ka e.symm)) hb q h2 h1
   ·rw [Wk,if_neg e2] at h2
    exact h.2 j i hj hi Ka q h1 h2
theorem iQ (L:Va) (pu:Nat) (vars:Int) (A B:Option Addr) (n c m d:Nat) (rows:List Ya) (ws:List Nat) (w:World) (hL:Vc L) (hF:ux L pu vars rows) (hr:RSl 3 Md w [.slice A n c] rows) (hw:RWd w [.slice B m d] ws) (Cr:(ws.length:Int)=vars) :
  Calls Tryz.prog 35 #[.agg (Ua L),Ib L.p (pu:Int) vars (.slice A n c), .slice B m d] w fun e w'=>∃ v,e= .returned v /\ RRx w.heap.size w' v (Ew L rows ws pu) /\ Below w.heap.size w w':=by
 obtain ⟨Bh,sr,hdx,oa,Je⟩:=zb hw;subst Bh;have gm:=uj sr hdx;have Vt:=hF.sec;have Ol:=hL.r;have RU:=hF.nr;obtain ⟨s,hs⟩:=zEX (1+pu);have e1:(1:Int)+(pu:Int)=(s:Int):=by omega
 have e2:=zd s;have e3:(s:Int) <= (ws.length:Int):=by omega
 have e4:s <= ws.length:=by omega
 have e5:(0:Int) <= (s:Int):=by omega
 have dv:((ws.length:Int) != vars)=false:=by rw [Cr];simp
 rw [show Ew L rows ws pu=Io L.block (xe (ws.drop s) (Kh L.p rows ws 0) (Kh L.p rows ws 1) (Kh L.p rows ws 2)) (xe L.a L.b L.b L.b) by rw [hs];rfl]
 have sn:L.a=((ws.drop s).length+L.block-1) / L.block:=by
  rw [List.length_drop,show ws.length-s=L.secret by omega];exact hL.ae
 have Yj:∀ k,L.b=((Kh L.p rows ws k).length+L.block-1) / L.block:=fun k=>by
  rw [show (Kh L.p rows ws k).length=L.rows by simp [Kh,RU]];exact hL.be
 have Zt:RWd w [.slice (if d=s then B else Option.map (fun x=>x.add s) B) (ws.length-s) (d-s)] (ws.drop s):=by
  have hc:=Je.cut (k:=s) e4 sr;rw [Nat.mul_one] at hc;refine ⟨_,_,_,rfl,by omega,by omega,?_,fun x hx=>oa x (List.mem_of_mem_drop hx)⟩
  have e:Ca (ws.drop s)=(Ca ws).drop s:=by simp [Ca]
  rw [e];exact hc
 have mw:rows.length=n:=by
  obtain ⟨_,_,_,he,hn,-⟩:=hr;simp at he
  omega
 have zm:=zH (fun w=>LG L pu vars A n c rows w hL hF mw)
 have HVl:=zH (fun A len c l w' (hb:Below w.heap.size w w') hl=>zK L.p A B len c ws.length d l ws w' hl (ib hb hw) hL.p)
 have P5:=zH (fun v0 v1 v2 v3 l0 l1 l2 l3 w h hq=>wJ L v0 v1 v2 v3 l0 l1 l2 l3 w hL h hq)
 obtain ⟨A',n',c',he,hnl,Sc,kh,za⟩:=hr;simp at he
 obtain ⟨rfl,rfl,rfl⟩:=he;subst mw;have gr:(rows.length:Int) <= 65536:=by omega
 have vl:=zH (show ∀ k i (h:i<rows.length),(Kh L.p rows ws k).take i++[ud L.p (Dd rows[i] k) ws]=(Kh L.p rows ws k).take (i+1) from fun k i h=>by
  rw [List.take_succ_eq_append_getElem (by simpa [Kh] using h)]
  simp [Kh])
 have Bk:=zH (show ∀ k,(Kh L.p rows ws k).take rows.length=Kh L.p rows ws k from fun k=>List.take_of_length_le (by simp [Kh]))
 have HVT:=zH (show ∀ k,∀ x∈Kh L.p rows ws k,x<18446744073709551616 from fun k x hx=>by
  obtain ⟨r,-,rfl⟩:=List.mem_map.1 hx;exact Nat.lt_trans (xO (by have:=nc hL.p;omega) _ _) (nc hL.p).2)
 obtain ⟨vals,ZH⟩:=zEX (Kh L.p rows ws);rw [<- ZH] at vl Bk HVT Yj |-;have HQ:=zH (And.intro sn Yj);obtain ⟨B0,hB0⟩:=zEX ((if d=s then B else Option.map (fun x=>x.add s) B))
 have HB0:=zH hB0;rw [<- hB0] at Zt;obtain ⟨TC,hTC⟩:∃ TC:Array Value,TC=#[.int .u64 L.p, .int .i64 pu, .int .i64 vars, .slice A rows.length c]:=⟨_,rfl⟩;have HTC:=zH hTC;have HT0:=zH (show TC[0]?=some (.int .u64 L.p) by rw [hTC];rfl)
 have HT3:=zH (show TC[3]?=some (.slice A rows.length c) by rw [hTC];rfl)
 unfold Ua Ib at *;obtain ⟨kl,kt,aa,-⟩:=ah w 68 25 #[.int .u64 L.p, .int .i64 L.block, .int .i64 L.queries, .int .i64 L.k, .int .i64 L.n, .int .i64 L.secret, .int .i64 L.rows, .int .i64 L.a, .int .i64 L.b, .int .i64 L.b, .int .i64 L.b] #[.int .u64 L.p, .int .i64 pu, .int .i64 vars, .slice A rows.length c];clear hs ZH Je oa hw hB0 hTC sn Yj Vt Ol RU Cr hF hL;go_enter Tryz.func35,Tryz.ntmps35
 go_upto_region 1 with fail
 generalize (w.alloc _).alloc _=w1 at kl kt aa |-;have cl:=kl.cell;have ct:=kt.cell;go_wp2_with fail
 refine (zm.out _).mono ?_;rintro e w2 ⟨rfl,Aa⟩;replace kl:=ea kl Aa;replace kt:=ea kt Aa;replace aa:=ja aa Aa;clear Aa cl ct zm;have ct:=kt.cell;go_upto_region 4 with fail
 rw [<- HB0.out];clear e1 e2 e3 e4 e5 HB0 ct dv;have kv:=Blk.new w2 166 #[.slice B0 (ws.length-s) (d-s), .slice none 0 0, .slice none 0 0, .slice none 0 0];have ia:=(Below.refl w2.heap.size w2).alloc zR (.cells #[.slice B0 (ws.length-s) (d-s), .slice none 0 0, .slice none 0 0, .slice none 0 0] 166);have n1:=kt.lt;have n2:=kl.lt;replace kl:=ea kl ia;replace kt:=ea kt ia;replace aa:=ja aa ia;clear ia;have ff:w2.heap.size+1 <= (w2.alloc (.cells #[.slice B0 (ws.length-s) (d-s), .slice none 0 0, .slice none 0 0, .slice none 0 0] 166)).heap.size:=kv.lt;have Wo:w.heap.size <= w2.heap.size:=by omega
 generalize ws.length-s=n0 at *;generalize d-s=d0 at *;generalize w2.alloc _=w3 at kl kt kv aa ff |-;generalize w2.heap.size=gv at kv n1 n2 ff Wo |-;obtain ⟨V0,Wm⟩:∃ V0:Value,V0= .slice B0 n0 d0:=⟨_,rfl⟩;have kV:=zH Wm;rw [<- Wm] at kv Zt;clear Wm;rw [<- HTC.out] at kt;have n3:w.heap.size≠gv:=by omega
 have n4:w.heap.size+1≠gv:=by omega
 obtain ⟨N,hN⟩:=zEX (gv+1);rw [<- hN] at ff;have nv:gv<N:=by omega
 have nv2:gv≠N:=by omega
 have n5:w.heap.size<N:=by omega
 have n6:w.heap.size+1<N:=by omega
 have n7:w.heap.size <= gv:=by omega
 have n8:w.heap.size≠N:=by omega
 clear hN;have ct:=kt.cell 3;rw [HT3.out] at ct;go_wp2_with fail
 clear ct;go_loopw [32] (fun y wr=>∃ (i:Nat) (xs:Nat -> Value),i <= rows.length /\ y= .int .i64 i /\ Blk wr w.heap.size 68 #[.int .u64 L.p, .int .i64 L.block, .int .i64 L.queries, .int .i64 L.k, .int .i64 L.n, .int .i64 L.secret, .int .i64 L.rows, .int .i64 L.a, .int .i64 L.b, .int .i64 L.b, .int .i64 L.b] /\ Blk wr (w.heap.size+1) 25 TC /\ Blk wr gv 166 #[V0,xs 0,xs 1,xs 2] /\ Bo N wr xs (fun _=>i) vals /\ Below w.heap.size w wr /\ N <= wr.heap.size) (fun y _=>rows.length-(intOf y).toNat)
 case atStart=>exact ⟨0,fun _=>.slice none 0 0,by omega,rfl,kl,kt,kv,⟨fun j _=>⟨rfl, .inl ⟨rfl,rfl⟩⟩,fun j i _ _ _ q h=>by cases h⟩,aa,ff⟩
 case round =>
  clear kl kt kv aa ff;obtain ⟨i,xs,hi,rfl,kl,kt,kv,h3,aa,ff⟩:=hrel;by_cases ar:i<rows.length
  ·have q1:(i:Int)<(rows.length:Int):=by omega
   have q2:(0:Int) <= (i:Int):=by omega
   obtain ⟨b,q,rfl⟩:=za.base (by omega) (by omega)
   obtain ⟨cs,-,hc,u0,u1,u2,rfl,SU,ER,Xt⟩:=za.get ar;have r0:w.cell? ⟨b,q+i*3,none⟩=some u0:=hc 0 (by omega)
   have r1:w.cell? ⟨b,q+i*3+1,none⟩=some u1:=hc 1 (by omega)
   have r2:w.cell? ⟨b,q+i*3+2,none⟩=some u2:=hc 2 (by omega)
   have lb:=World.block_lt_of_cell? _ _ r0;replace r0:=(aa.cell (p:=⟨b,q+i*3,none⟩) lb).trans r0;replace r1:=(aa.cell (p:=⟨b,q+i*3+1,none⟩) lb).trans r1;replace r2:=(aa.cell (p:=⟨b,q+i*3+2,none⟩) lb).trans r2;obtain ⟨P0,m0,k0,rfl⟩:=RSl.slc SU;obtain ⟨P1,m1,Bd,rfl⟩:=RSl.slc ER;obtain ⟨P2,m2,k2,rfl⟩:=RSl.slc Xt;have HVNi:=zH (show ∀ k,(vals k).take i++[ud L.p (Dd (rows[i]'ar) k) ws]=(vals k).take (i+1) from fun k=>vl.out k i ar)
   obtain ⟨ri,hri⟩:=zEX (rows[i]'ar);rw [<- hri] at SU ER Xt HVNi;clear hri;have HHI:=zH hi;obtain ⟨i1,Di⟩:=zEX (i+1);have fl:=zH Di;have Fb:=zH ar;clear hc hi Di;go_upto_region 7 with fail
   have kr:=Blk.new wr 170 #[.slice P0 m0 k0, .slice P1 m1 Bd, .slice P2 m2 k2];have ia:=(Below.refl wr.heap.size wr).alloc zR (.cells #[.slice P0 m0 k0, .slice P1 m1 Bd, .slice P2 m2 k2] 170);replace h3:=OB h3 ia;replace kl:=ea kl ia;replace kt:=ea kt ia;replace kv:=ea kv ia;replace aa:=ja aa ia;replace ff:=Nat.le_trans ff ia.size;clear ia r0 r1 r2;generalize wr.alloc _=wo at kr kl kt kv h3 aa ff |-;generalize wr.heap.size=gr at kr |-;have cr:=kr.cell;go_wp2_with fail
   clear cr kr;have HU0:=zH (fun w' (hb:Below w.heap.size w w')=>se _ _ _ _ hb SU)
   have HU1:=zH (fun w' (hb:Below w.heap.size w w')=>se _ _ _ _ hb ER)
   have HU2:=zH (fun w' (hb:Below w.heap.size w w')=>se _ _ _ _ hb Xt)
   clear SU ER Xt;go_loopw [43] (fun y wr=>∃ (k:Nat) (xs:Nat -> Value),k <= 3 /\ y= .int .i64 k /\ Blk wr gv 166 #[V0,xs 0,xs 1,xs 2] /\ Bo N wr xs (fun j=>if j<k then i+1 else i) vals /\ mi gv N wo wr /\ N <= wr.heap.size) (fun y _=>3-(intOf y).toNat)
   case atStart=>exact ⟨0,xs,by omega,rfl,kv,h3,(sb _ _).refl _,ff⟩
   case round =>
    clear kv h3;obtain ⟨k,xs,hk,rfl,kv,h3,tb,zh⟩:=hrel;have y1:w.heap.size<gv+1:=by omega
    have y2:w.heap.size+1<gv+1:=by omega
    have klr:=NG kl tb n5 n3;have NA:=NG kt tb n6 n4;have Qa:Below w.heap.size w wr:=aa.trans ⟨tb.1,tb.2.1,tb.2.2.1,tb.2.2.2.1,fun b hb=>tb.2.2.2.2 b (by omega) (by omega)⟩
    by_cases oa:k<3
    ·have g1:(k:Int)<3:=by omega
     have g2:(0:Int) <= (k:Int):=by omega
     obtain ⟨k1,Lg⟩:=zEX (k+1);have ek:(1:Int)+(k:Int)=(k1:Int):=by omega
     have Cv:=zd k1;have lS:=zH Lg;have qk:k1<4:=by omega
     have qk2:(k1:Int)<4:=by omega
     have qk3:(0:Int) <= (k1:Int):=by omega
     clear Lg;have ma:wr.ownsRow N 22 1 (xs k) i (Ca ((vals k).take i)):=by have:=h3.1 k oa;simpa using this
     obtain ⟨Ax,cx,Sl,-⟩:=Tb ma;have ix:=fun (w:World)=>mE (w:=w) (x:=.slice P0 m0 k0) (y:=.slice P1 m1 Bd) (z:=.slice P2 m2 k2) oa
     obtain ⟨sel,Kd⟩:=zEX ((if k=0 then Value.slice P0 m0 k0 else if k=1 then .slice P1 m1 Bd else .slice P2 m2 k2))
     have qj:RLin wr [sel] (Dd ri k):=by
      rw [Kd];unfold Dd;have hfb:Below wo.heap.size wo wr \/ True:=.inr trivial;rcases (show k=0 \/ k=1 \/ k=2 by omega) with h | h | h <;> subst h
      ·exact HU0.out _ Qa
      ·exact HU1.out _ Qa
      ·exact HU2.out _ Qa
     rw [<- Kd] at ix;obtain ⟨As,ns,Bc,rfl⟩:=RSl.slc qj;have gG:=zH (HVNi.out k);have cv:wr.cell? ⟨gv,k1,none⟩=some (.slice Ax i cx):=by
      rw [kv.cell,lS.out,BG oa,Sl]
     obtain ⟨z,hz⟩:=zEX (ud L.p (Dd ri k) ws);have Gm:=zH (fun w' (hb:Below w.heap.size w w') (hl':RLin w' [.slice As ns Bc] (Dd ri k))=>by have:=HVl.out As ns Bc (Dd ri k) w' hb hl';rw [<- hz] at this;exact this)
     rw [<- hz] at gG;have Fg:=zH Sl;have cl:=klr.cell;have ll:=klr.lt;have lv:=kv.lt;clear Kd hz Sl;generalize Dd ri k=lside at *;go_upto_region 10 with fail
     refine Zw (mi N N) [10,11,12,14] [14] [0,1,2,3,4,5,6,7,8,9,10,11,12,13,14] (by kernel_rfl) (by kernel_rfl) ?_
     refine bx (sb N N) ?_;intro Wc Ba da;have Ja:=Sg Ba;have Ob:N <= Wc.heap.size:=by have:=Ja.size;omega
     replace kv:=ea kv Ja;replace ma:=db ma Ja zR;replace Qa:=ja Qa Ja;replace h3:=OB h3 Ja;replace qj:=se _ _ _ _ Ja qj;replace tb:=(sb gv N).trans _ _ _ tb (yf Ja zh);clear Ba Ja;refine Tg ?_;refine Oz (sb N N) rfl rfl rfl (fun _=>by go_simp <;> rfl) ((Gm.out _ Qa qj).mono ?_)
     rintro e w6 ⟨rfl,Cc⟩;refine ⟨_,rfl,fun _=>yf Cc Ob,?_⟩
     replace da:=(sb N N).trans _ _ _ da (yf Cc Ob);simp only [Act.put,zLa,zLb,zLc];have Gk:N <= w6.heap.size:=by have:=Cc.size;omega
     replace kv:=ea kv Cc;replace ma:=db ma Cc zR;replace Qa:=ja Qa Cc;replace h3:=OB h3 Cc;replace tb:=(sb gv N).trans _ _ _ tb (yf Cc Ob);clear Cc qj;refine Tg ?_;refine og (sb N N) rfl rfl rfl ?_;go_simp;have ia:=(Below.refl w6.heap.size w6).alloc zR (.cells #[.int .u64 z] 22);have re:=Uk w6 (.int .u64 z) 22;refine ⟨fun _=>yf ia Gk,?_⟩
     replace kv:=ea kv ia;replace ma:=db ma ia zR;replace Qa:=ja Qa ia;replace h3:=OB h3 ia;replace tb:=(sb gv N).trans _ _ _ tb (yf ia Gk);have Zd:=Nat.le_trans Gk ia.size
     try simp only [Act.put,zLa,zLb,zLc]
     generalize w6.alloc _=w7 at kv ma h3 tb re Qa Zd |-;generalize w6.heap.size=g6 at re |-;clear ia Gk da cl cv;have da:=(sb N N).refl w7;refine Tg ?_;refine og (sb N N) rfl rfl rfl ?_;refine om _ _ rfl Vi rfl (by rw [Fg.out] at ma;exact ma) rfl re (yg [z]) (by omega) Zd ?_
     intro v' wn Ta Ha Ab;have Vb:∀ q,(Value.slice Ax i cx).ownBlock=some q -> N <= q:=fun q e=>by rw [<- Fg.out] at e;exact (ma.lt q e).1
     refine ⟨fun _=>Gq Ha Zd Vb,?_⟩
     replace kv:=kv.grown Ha (fun e=>by first | (have:=Vb _ e;omega) | (have:=Vb _ e.symm;omega))
     replace tb:=(sb gv N).trans _ _ _ tb (Gq Ha Zd Vb);replace Ta:wn.ownsRow N 22 1 v' (i+1) (Ca ((vals k).take (i+1))):=Kr (b:=[z]) Ta gG.out;have h4:=lR (x:=v') h3 oa (by simpa using Ta) (by rw [Fg.out];exact Ha) (by rw [Fg.out];exact Ab)
     obtain ⟨Aw,cw,rfl,-⟩:=Tb Ta;have Ud:=Nat.le_trans Zd Ha.size;clear ma Ha Ab Vb Zd re da h3 Ta;have da:=(sb N N).refl wn;have cv:wn.cell? ⟨gv,k1,none⟩=some (.slice Ax i cx):=by
      rw [kv.cell,lS.out,BG oa,Fg.out]
     have fv2:=kv.frozen
     try simp only [Act.put,zLa,zLb,zLc]
     refine Tg ?_;refine og (sb N N) rfl rfl rfl ?_;go_simp;refine ⟨fun h=>Bool.noConfusion h,?_⟩
     have Oa:=Pg (w:=wn) gv k1 (.slice Aw (i+1) cw);replace kv:=kv.set_ k1 (.slice Aw (i+1) cw);rw [lS.out,wL oa,<- lS.out] at kv;have h4:=mR h4 Oa nv;replace tb:=(sb gv N).trans _ _ _ tb (zx Oa Ud);replace Ud:=Nat.le_trans Ud Oa.size;clear Oa cv fv2 da;generalize wn.setCell _ _=wz at kv h4 tb Ud |-;have da:=(sb N N).refl wz;refine Tg ?_;refine ax ?_;have h5:Bo N wz (Wk xs k (.slice Aw (i+1) cw)) (fun j=>if j<k1 then i+1 else i) vals:=by
      have e:(fun j=>if j=k then (fun j=>if j<k then i+1 else i) k+1 else (fun j=>if j<k then i+1 else i) j)=(fun j=>if j<k1 then i+1 else i):=by
       funext j
       rw [lS.out];by_cases e1:j=k
       ·subst e1;simp
       ·by_cases e2:j<k
        ·simp [e1,e2,show j<k+1 by omega]
        ·simp [e1,e2,show ¬j<k+1 by omega]
      rw [e] at h4;exact h4
     clear h4;have SJ:=zH (show k1 <= 3 by omega)
     go_wp2
     go_roundw
     case rel=>exact ⟨k1,Wk xs k (.slice Aw (i+1) cw),SJ.out,by rw [lS.out];go_num,kv,h5,tb,Ud⟩
     case measure=>simp [intOf];omega
    ·obtain rfl:k=3:=by omega
     have tY:Bo N wr xs (fun _=>i1) vals:=by
      refine ⟨fun j hj=>?_,h3.2⟩
      have:=h3.1 j hj;simp only [if_pos hj] at this;rw [fl.out];exact this
     clear h3;have HEE:=zH (show i1 <= rows.length by have:=Fb.out;have:=fl.out;omega)
     go_wp2_with fail
     go_roundw
     case rel=>exact ⟨i1,xs,HEE.out,by rw [fl.out];go_num,klr,NA,kv,tY,Qa,zh⟩
     case measure=>have:=Fb.out;simp [intOf];omega
  ·obtain rfl:i=rows.length:=by omega
   have q2:¬((rows.length:Int)<(rows.length:Int)):=by omega
   have h0:=h3.1 0 (by omega)
   have h1:=h3.1 1 (by omega)
   have h2:=h3.1 2 (by omega)
   rw [Bk.out] at h0 h1 h2;obtain ⟨A1,c1,e1,h0⟩:=sF h0 (HVT.out 0);obtain ⟨A2,c2,e2,h1⟩:=sF h1 (HVT.out 1);obtain ⟨A3,c3,e3,h2⟩:=sF h2 (HVT.out 2);have hv:=ib aa Zt;have HH:=zH (fun (w':World) (hb:Below wr.heap.size wr w')=>P5.out V0 (xs 0) (xs 1) (xs 2) (ws.drop s) (vals 0) (vals 1) (vals 2) w' (fun i hi=>by
    rw [e1,e2,e3];rcases (show i=0 \/ i=1 \/ i=2 \/ i=3 by omega) with rfl | rfl | rfl | rfl
    ·exact ib hb hv
    ·exact ib hb h0
    ·exact ib hb h1
    ·exact ib hb h2) (fun i hi=>by
    rcases (show i=0 \/ i=1 \/ i=2 \/ i=3 by omega) with rfl | rfl | rfl | rfl
    ·exact HQ.out.1
    ·exact HQ.out.2 0
    ·exact HQ.out.2 1
    ·exact HQ.out.2 2))
   rw [e1,e2,e3,kV.out] at kv HH;have cl:=kl.cell;have cv:=kv.cell;have ll:=kl.lt;have lv:=kv.lt;clear h3 h0 h1 h2 hv e1 e2 e3;go_wp2_with fail
   refine (HH.out _ (Below.refl _ _)).mono ?_;rintro e w9 ⟨v,rfl,hov,Aa⟩;go_wp2;go_ret
   exact ⟨_,rfl,hov.mono aa.size,ja aa Aa⟩
end Go.Proofs.YtjipleoamlmkfaaGreat
