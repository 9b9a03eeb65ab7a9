/- A part of the proof. No condition. -/
import Derived.Test.YtodmnanljoaocaaGreatPU17
import Derived.Test.YtodmnanljoaocaaGreatPU15
import Derived.Test.YtodmnanljoaocaaGreatPU16

set_option maxRecDepth 100000
set_option maxHeartbeats 8000000
set_option linter.unusedVariables false
set_option linter.unusedSimpArgs false
namespace Go.Proofs.YtodmnanljoaocaaGreat
open Go.RowKit Go.Maps
open Tryz
open Go renaming World->vv, Value->vw, Addr->vx, TypeId->vy, Calls->vA
open Go.Value renaming int->vd, slice->ve, agg->vf
open Go.IntKind renaming u64->vq, i64->vt
open Go.Ending renaming returned->vn
open Go.RowKit renaming Below->vz
open Option renaming none->vB, some->vD
structure RealF (O:Oa):Prop where
 fair:Lv O
 real:O.ideal=false
structure CoR where
 r:List (List Nat)
 l1:List Nat
 l2:List Nat
 l3:List Nat
 l4:List Nat
def CoR.ok (C:CoR) (L:Xa):Bool:=iJ L C.r C.l1 C.l2 C.l3 C.l4
structure CoS where
 A0:Option vx
 n0:Nat
 c0:Nat
 A1:Option vx
 n1:Nat
 c1:Nat
 A2:Option vx
 n2:Nat
 c2:Nat
 A3:Option vx
 n3:Nat
 c3:Nat
 A4:Option vx
 n4:Nat
 c4:Nat
def cU (S:CoS):Array vw:=#[ve S.A0 S.n0 S.c0,ve S.A1 S.n1 S.c1,ve S.A2 S.n2 S.c2,ve S.A3 S.n3 S.c3,ve S.A4 S.n4 S.c4]
structure CP (w:vv) (C:CoR) (S:CoS):Prop where
 r:Ye w [ve S.A0 S.n0 S.c0] C.r
 l1:RWd w [ve S.A1 S.n1 S.c1] C.l1
 l2:RWd w [ve S.A2 S.n2 S.c2] C.l2
 l3:RWd w [ve S.A3 S.n3 S.c3] C.l3
 l4:RWd w [ve S.A4 S.n4 S.c4] C.l4
def pvX (L:Xa) (j pu:Nat) (vars:Int) (rows:List Ya) (ws:List Nat) (C:CoR):PvIn :=
 ⟨L,j,pu,Cf L.p (pu:Int) vars rows,rows,ws,xF L rows ws pu,C.r,C.l1,C.l2,C.l3,C.l4⟩
def mP (L:Xa) (ke:Nat):CoR:=⟨Cy L ke (L.a+L.b+L.b+L.b),wi L.p ke [1] L.k,wi L.p ke [2] (L.k+L.block-2),wi L.p ke [3] (L.block+2*L.queries-1),wi Ob ke [4] L.n⟩
section
variable {L:Xa} {j pu:Nat} {C:CoR} {vars:Int} {rows:List Ya} {ws:List Nat} {bl bw qs:Int} {O Z:Oa} {k:Nat}
end
theorem CoB.below {N:Nat} {w u:vv} {q:Nat} {cs:Array vw} {n:Nat} {r:Nat -> List Nat} {l1 l2 l3 l4:List Nat} {g0 g1 g2 g3 g4 NF:Nat} {f:Nat -> Nat} (h:CoB N w q cs n r l1 l2 l3 l4 g0 g1 g2 g3 g4 NF f) (hb:vz w.1.size w u):CoB N u q cs n r l1 l2 l3 l4 g0 g1 g2 g3 g4 NF f :=
 ⟨h.k0.below hb h.k0.lt,h.k1.below hb h.k1.lt,h.k2.below hb h.k2.lt,h.k3.below hb h.k3.lt,h.k4.below hb h.k4.lt,h.kr.keep fun b _ hl=>hb.block b hl,h.ge,h.lt,h.nd⟩
theorem Moved.st {g:Nat} {F F':Nat -> Prop} {w0 w wf:vv} (m:Moved F F' w0 w) (h:StB g w wf) (hg:w0.1.size <= g):Moved F F' w0 wf :=
 ⟨h.os.trans m.os,h.tape.trans m.tape,h.output.trans m.output,Cb m.size (Nat.le_of_eq h.size.symm),fun b hb hn=>(h.far b zO).trans (m.block b hb hn),m.foot⟩
theorem XW {w:vv} {b i:Nat} {t:vy} (k:Blk w b t #[vd vt i,vd vq 1]) (hi:i<100):RLin w [ve (vD ⟨b,0,vB⟩) 1 1] [((i:Int),1)]:=by
 refine ⟨_,1,1,rfl,rfl,zR,by simp [maxLen],fun j hj=>⟨_,[vd vt i,vd vq 1],rfl,rfl,fun q hq=>?_,?_⟩⟩
 ·obtain rfl:j=0:=by simpa using hj
  rw [yt,show 0+(0*2+q)=q by omega,k.cell]
  simp
 ·obtain rfl:j=0:=by simpa using hj
  exact ⟨rfl,by simp;omega,zS⟩
def ql (i j k:Nat):Ya:=⟨[((i:Int),1)],[((j:Int),1)],[((k:Int),1)]⟩
theorem rrow_N {w:vv} {b1 b2 b3 b4 i j k:Nat} {t u:vy} (hi:i<100) (hj:j<100) (hk:k<100) (k1:Blk w b1 t #[vd vt i,vd vq 1]) (k2:Blk w b2 t #[vd vt j,vd vq 1]) (k3:Blk w b3 t #[vd vt k,vd vq 1]) (k4:Blk w b4 u #[ve (vD ⟨b1,0,vB⟩) 1 1,ve (vD ⟨b2,0,vB⟩) 1 1,ve (vD ⟨b3,0,vB⟩) 1 1]) :
  RSl 3 Ue w [ve (vD ⟨b4,0,vB⟩) 1 1] [ql i j k]:=by
 refine ⟨_,1,1,rfl,rfl,zR,by simp [maxLen],fun x hx=>⟨_,[ve (vD ⟨b1,0,vB⟩) 1 1,ve (vD ⟨b2,0,vB⟩) 1 1,ve (vD ⟨b3,0,vB⟩) 1 1],rfl,rfl,fun q hq=>?_,?_⟩⟩
 ·obtain rfl:x=0:=by simpa using hx
  rw [yt,show 0+(0*3+q)=q by omega,k4.cell]
  simp
 ·obtain rfl:x=0:=by simpa using hx
  exact ⟨_,_,_,rfl,XW k1 hi,XW k2 hj,XW k3 hk⟩
def layE:Xa:=⟨97,2,2,4,8,2,1,1,1⟩
theorem mR:ed layE:=⟨zD,zD,zD,zD,zD,zD,⟨3,rfl⟩,zD,zD,zD,zD,zD,zD,zD,zD,zD,zD,zD,zD⟩
structure tt (lab:Nat) (O:Oa):Prop where
 ideal:O.ideal=true
 no:∀ q∈O.qs,q.lab≠lab
theorem JO {lab DA:Nat} {O:Oa} (h:tt lab O) (hl:DA≠lab) (el:List Nat):tt lab (td O DA el):=by
 refine ⟨by rw [OQ];exact h.ideal,?_⟩
 unfold td;split
 ·split
  ·exact h.no
  ·rw [Gb h.ideal,GG]
   intro q hq;rcases Lq.1 hq with hq | hq
   ·rw [show (Mn O).qs=O.qs from SD O] at hq
    exact h.no q hq
   ·rw [zz] at hq
    rw [hq];exact hl
 ·exact h.no
theorem Z5 {lab DA:Nat} (hl:DA≠lab):∀ (qs:List (List Nat)) {O:Oa},tt lab O -> tt lab (kd O DA qs)
 | [],_,h=>h
 | q :: qs,O,h=>Z5 hl qs (O:=td O DA q) (JO h hl q)
theorem zEs {lab:Nat} {O:Oa} (h:tt lab O) (el:List Nat):Nl O lab el=vB:=by
 unfold Nl;split
 ·split
  ·rename_i a ha
   obtain ⟨q,hq,h1,-,-⟩:=CQ ha;exact absurd h1 (h.no q hq)
  ·rw [Gb h.ideal]
 ·rfl
theorem zEv {O:Oa} (h:tt 16 O) (root n i Qc:Nat) (leaf path:List Nat):UC O root n i Qc leaf path=false:=by
 have e:Rp O 16 (Qc :: leaf)=vB:=by
  unfold Rp;rw [Gb h.ideal];exact zEs h _
 have f:Ns path O 16 (Qc :: leaf) i=vB:=by
  cases path with
  | nil=>exact e
  | cons p r=>unfold Ns;rw [e];rfl
 unfold UC;rw [f];simp
theorem zEr {O:Oa} (h:tt 16 O) (L:Xa) (dg:Nat) (l:List Nat):tt 16 (qg O L dg l).O:=JO h zD _
theorem zEt {s:Tr} (h:tt 16 s.O) (root:Nat):tt 16 (oh s root).O:=by
 have hc:∀ t:Tr,tt 16 t.O -> tt 16 (Qo t).O:=fun t k=>JO k zD _
 exact hc _ (hc _ (hc _ (JO h zD _)))
theorem zEu {s:Tr} (h:tt 16 s.O) (all:List Nat) (q:Nat):tt 16 (WA s all q):=Z5 zD _ (JO h zD _)
theorem zBe (de:Nat) (L:Xa) (hq:1 <= L.queries) (j pu dg:Nat) (rows:List Ya) (pb:List Nat) (P:Yg):(Pr (eu false de) L j pu dg rows pb P).1=false:=by
 have h0:tt 16 (eu false de):=⟨rfl,fun q hq=>nomatch hq⟩
 have h1:=zEu (zEt (zEr h0 L dg pb) P.root) (P.code++P.linear++P.quad) L.queries;unfold Pr;split
 ·split
  ·split
   ·have:=xW (fun Z i=>UC Z P.root L.n ((xq (oh (qg (eu false de) L dg pb) P.root) (P.code++P.linear++P.quad) L.n L.queries).getD i 0) (P.salts.getD i 0) (P.cols.getD i []) (P.paths.getD i []))
     (fun Z i=>SC Z P.root L.n ((xq (oh (qg (eu false de) L dg pb) P.root) (P.code++P.linear++P.quad) L.n L.queries).getD i 0) (P.salts.getD i 0) (P.cols.getD i []) (P.paths.getD i [])) (q:=L.queries) (i:=0) zO (WA (oh (qg (eu false de) L dg pb) P.root) (P.code++P.linear++P.quad) L.queries)
    rw [Nat.sub_zero] at this;rw [this,zEv h1]
    rfl
   ·rfl
  ·rfl
 ·rfl
theorem store4 {w:vv} {g:Nat} {t:vy} {y0 y1 y2 y3:vw} (k:Blk w g t #[y0,y1,y2,y3]) (x0 x1 x2 x3:vw):∃ wf,((((w).setCell ⟨g,0,vB⟩ x0).setCell ⟨g,1,vB⟩ x1).setCell ⟨g,2,vB⟩ x2).setCell ⟨g,3,vB⟩ x3=wf /\ Blk wf g t #[x0,x1,x2,x3] /\ StB g w wf :=
 ⟨_,rfl,ug [x0,x1,x2,x3] k rfl,WM g [x0,x1,x2,x3] w⟩
theorem zHK (i:Int) (w:vv) :
  vA prog 93 #[vd vt i] w fun e w'=>∃ g,e=vn (ve (vD ⟨g,0,vB⟩) 1 1) /\ w.1.size <= g /\ Blk w' g 191 #[vd vt i,vd vq 1] /\ vz w.1.size w w':=by
 go_enter func93,ntmps93
 go_wp2_with fail
 go_ret
 exact ⟨_,rfl,zR,Blk.new _ _ _,(Bb _ _).alloc zR _⟩
theorem zCp (w:vv) :
  vA prog 37 #[] w fun e w'=>∃ gr gw,e=vn (.tuple #[vf #[vd vq 97,vd vt 1,vd vt 4,ve (vD ⟨gr,0,vB⟩) 1 1],vf #[vd vt 2,vd vt 1,vd vt 2],ve (vD ⟨gw,0,vB⟩) 4 4]) /\ RSl 3 Ue w' [ve (vD ⟨gr,0,vB⟩) 1 1] [ql 1 2 3] /\ RWd w' [ve (vD ⟨gw,0,vB⟩) 4 4] [1,5,6,30] /\ vz w.1.size w w':=by
 have HT:=zH (fun i w=>zHK i w)
 obtain ⟨k0,k9,ba,-⟩:=ig w 25 27 #[vd vq 0,vd vt 0,vd vt 0,ve vB 0 0] #[vd vt 0,vd vt 0,vd vt 0];go_enter func37,ntmps37
 go_upto_region 2 with fail
 generalize (w.alloc _).alloc _=w1 at k0 k9 ba |-;go_wp2_with fail
 refine (HT.out _ _).mono ?_;rintro e w2 ⟨a1,rfl,h1,k1,ra⟩;have iA:=k9.lt;have Rn:w.1.size+1<a1:=by omega
 replace k0:=ma k0 ra;replace k9:=ma k9 ra;replace ba:=pa ba ra;clear ra h1 iA;go_wp2_with fail
 refine (HT.out _ _).mono ?_;rintro e w3 ⟨a2,rfl,h2,k2,ra⟩;have iA:=k9.lt;have XG:w.1.size+1<a2:=by omega
 replace k0:=ma k0 ra;replace k9:=ma k9 ra;replace k1:=ma k1 ra;replace ba:=pa ba ra;clear ra h2 iA;go_wp2_with fail
 refine (HT.out _ _).mono ?_;rintro e w4 ⟨a3,rfl,h3,k3,ra⟩;have iA:=k9.lt;have ha3:w.1.size+1<a3:=by omega
 replace k0:=ma k0 ra;replace k9:=ma k9 ra;replace k1:=ma k1 ra;replace k2:=ma k2 ra;replace ba:=pa ba ra;clear ra h3;obtain ⟨kr,kw,ra,Rt⟩:=ig w4 186 22 #[ve (vD ⟨a1,0,vB⟩) 1 1,ve (vD ⟨a2,0,vB⟩) 1 1,ve (vD ⟨a3,0,vB⟩) 1 1] #[vd vq 1,vd vq 5,vd vq 6,vd vq 30];have l4:=k9.lt;have l1:=k1.lt;have l2:=k2.lt;have l3:=k3.lt;replace k0:=ma k0 ra;replace k9:=ma k9 ra;replace k1:=ma k1 ra;replace k2:=ma k2 ra;replace k3:=ma k3 ra;replace ba:=pa ba ra;clear ra Rt;have c0:=k0.cell;have f0:=k0.frozen;have c9:=k9.cell;have f9:=k9.frozen;go_wp2_with fail
 generalize (w4.alloc _).alloc _=w5 at kr kw k0 k9 k1 k2 k3 ba |-;clear c0 f0 c9 f9;obtain ⟨wy,hwy,ky,sy⟩:=store4 k0 (vd vq 97) (vd vt 1) (vd vt 4) (ve (vD ⟨w4.1.size,0,vB⟩) 1 1);rw [hwy];obtain ⟨wz,hwz,kz,sz⟩:=zAe (sy.blk k9 zO) (vd vt 2) (vd vt 1) (vd vt 2);rw [hwz];have cy:=(sz.blk ky zO).cell;have cz:=kz.cell;have y1:=rrow_N (i:=1) (j:=2) (k:=3) zO zO zO (sz.blk (sy.blk k1 zO) zO) (sz.blk (sy.blk k2 zO) zO) (sz.blk (sy.blk k3 zO) zO) (sz.blk (sy.blk kr zO) zO);have y2:=G5 (l:=[1,5,6,30]) (sz.blk (sy.blk kw zO) zO) rfl zD (by simp [maxLen])
 have hbz:=sz.below (sy.below ba zR) (Nat.le_succ _);refine Tc (v:=.tuple #[vf #[vd vq 97,vd vt 1,vd vt 4,ve (vD ⟨w4.1.size,0,vB⟩) 1 1],vf #[vd vt 2,vd vt 1,vd vt 2],ve (vD ⟨w4.1.size+1,0,vB⟩) 4 4]) ?_ rfl ?_
 ·simp [results,results37,go_sem,cy,cz]
 ·exact ⟨_,_,rfl,y1,y2,hbz⟩
theorem IK:aw layE ⟨layE.p,((1:Nat):Int),4,[ql 1 2 3].length,2,1,2⟩:=⟨rfl,zK,by decide +kernel,zD,zD⟩
theorem dI:FT layE.p ((1:Nat):Int) 4 [ql 1 2 3] [1,5,6,30] true:=⟨by decide +kernel,by decide +kernel,fun _=>zD,zD,by decide +kernel⟩
structure Twin (O U:Oa):Prop where
 io:O.ideal=true
 iu:U.ideal=true
 st:U.st=O.st
 dr:U.dr=O.dr
 find:∀ lab el,lab≠16 -> oe U.qs lab el=oe O.qs lab el
structure TwT (s t:Tr):Prop where
 o:Twin s.O t.O
 st:t.st=s.st
 ct:t.ct=s.ct
section
variable {x:PvIn} {s:List Nat} {O:Oa}
end
theorem zGE (L:Xa) (ke:Nat) (w:vv) (hL:ed L) (hs:ke<18446744073709551616) :
  vA prog 36 #[vf (Eb L),vd vq ke] w fun e w'=>∃ S:CoS,e=vn (vf (cU S)) /\ S.n4=L.n /\ S.n4 <= S.c4 /\ S.c4 <= maxLen /\ Hd (fun b=>w.1.size <= b /\ b<w'.1.size) w' (fun u=>CP u (mP L ke) S) /\ vz w.1.size w w':=by
 refine (zGh L ke w hL hs).mono ?_;rintro e w' ⟨v0,v1,v2,v3,v4,nr,crs,rfl,o0,WJ,o1,o2,o3,o4,hb⟩;have aH:=XY L ke (zQ (tc hL.p));obtain ⟨Qz,To,yd,Rf,uj⟩:=VY aH;have Xr:=WY aH;have Nb:=(tc hL.p).2;have hrx:=aP WJ o0 zR zR;obtain ⟨A0,n0,c0,rfl⟩:=RSl.slc hrx.here;obtain ⟨A1,c1,rfl,-⟩:=mc o1;obtain ⟨A2,c2,rfl,-⟩:=mc o2;obtain ⟨A3,c3,rfl,-⟩:=mc o3;obtain ⟨A4,c4,rfl,h41,h42,-⟩:=mc o4;exact ⟨⟨A0,n0,c0,A1,_,c1,A2,_,c2,A3,_,c3,A4,_,c4⟩,rfl,rfl,h41,h42,fun u a =>
  ⟨hd_rrx hrx u a,Yf (nO o1 u (Pu a fun b h=>o1.lt b h)) fun y hy=>gg (yd.2 y hy) Nb,
   Yf (nO o2 u (Pu a fun b h=>o2.lt b h)) fun y hy=>gg (Rf.2 y hy) Nb,
   Yf (nO o3 u (Pu a fun b h=>o3.lt b h)) fun y hy=>gg (uj.2 y hy) Nb,
   Yf (nO o4 u (Pu a fun b h=>o4.lt b h)) fun y hy=>Sp (of_decide_eq_true (Wg.1 Xr.2 y hy))⟩,hb⟩
end Go.Proofs.YtodmnanljoaocaaGreat
