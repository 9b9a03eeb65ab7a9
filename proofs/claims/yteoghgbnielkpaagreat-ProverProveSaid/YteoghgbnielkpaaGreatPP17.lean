/- A part of the proof. No condition. -/
import Derived.Test.YteoghgbnielkpaaGreatPP15
import Derived.Test.YteoghgbnielkpaaGreatPP16

set_option maxRecDepth 100000
set_option maxHeartbeats 8000000
set_option linter.unusedVariables false
set_option linter.unusedSimpArgs false
namespace Go.Proofs.YteoghgbnielkpaaGreat
open Go.RowKit Go.Maps
open Tryz
open Go renaming World->vu, Value->vw, Addr->vx, TypeId->vy, Calls->vA
open Go.Value renaming int->vd, slice->ve, agg->vf
open Go.IntKind renaming u64->vo, i64->vq
open Go.Ending renaming returned->vn
open Go.RowKit renaming Below->vz
open Go.World renaming setCell->vE
open Go.Act renaming put->vF
open Option renaming none->vB, some->vD
def JE (L:Tb) (m r:List (List Nat)) (i:Nat):Nat -> Nat:=Qx L (m.getD i []) (r.getD i [])
def Hy (L:Tb) (m r:List (List Nat)) (i:Nat):List Nat:=(List.range L.k).map (JE L m r i)
def IE (L:Tb) (cs m r:List (List Nat)) (i:Nat):Nat -> Nat :=
 tD L.p (Dr (L.k+L.block-1)) ((L.k+L.block-1-1).log2+1) ((List.range L.block).map (uu L.p L.block L.block.log2 (cs.getD i []))) (Hy L m r i)
def NA (L:Tb) (m r:List (List Nat)) (j:Nat):Nat -> Nat :=
 tD L.p (Dr (2*L.k-1)) ((2*L.k-1-1).log2+1) (Hy L m r (L.a+j)) (Hy L m r (L.a+L.b+j))
def aH (L:Tb) (m r:List (List Nat)) (j:Nat):Nat -> Nat:=JE L m r (L.a+L.b+L.b+j)
structure PvIn where
 L:Tb
 dd:Nat
 pub:Nat
 dg:Nat
 rows:List sc
 ws:List Nat
 m:List (List Nat)
 crs:List (List Nat)
 l1:List Nat
 l2:List Nat
 l3:List Nat
 l4:List Nat
def PvIn.cols (x:PvIn):List (List Nat):=(List.range x.L.n).map fun i=>(List.range (x.m.length+3)).map (QM x.L (FD x.L x.m x.crs x.l1 x.l2 x.l3) i)
def PvIn.pu (x:PvIn):List Nat:=(x.ws.drop 1).take x.pub
def PvIn.t1 (x:PvIn) (O:Jb):Tr:=WC O x.L x.dg x.pu
def PvIn.o2 (x:PvIn) (O:Jb):Jb:=Zv x.dd (Nc (x.t1 O).O 16 (Ni x.cols x.l4)) (bf (x.t1 O).O 16 (Ni x.cols x.l4))
def PvIn.tree (x:PvIn) (O:Jb):List (List Nat):=rn x.dd (Nc (x.t1 O).O 16 (Ni x.cols x.l4)) (bf (x.t1 O).O 16 (Ni x.cols x.l4))
def PvIn.root (x:PvIn) (O:Jb):Nat:=PB (x.tree O)
def PvIn.ch (x:PvIn) (O:Jb):ChR:=Tx ⟨x.o2 O,(x.t1 O).st,0⟩ x.L.p (x.root O)
def PvIn.t2 (x:PvIn) (O:Jb):Tr:=Fu ⟨x.o2 O,(x.t1 O).st,0⟩ (x.root O)
def PvIn.code (x:PvIn) (al:Nat):List Nat:=(List.range x.L.k).map (DD x.L.p x.L.k al (fun k=>x.l1.getD k 0) (JE x.L x.m x.crs) x.m.length)
def PvIn.lin (x:PvIn) (rh:Nat):List Nat:=(List.range (x.L.k+x.L.block-1)).map (ED x.L.p (x.L.k+x.L.block-1) (fun k=>(Qh x.L x.l2).getD k 0) (IE x.L (QA x.L x.pub rh x.rows) x.m x.crs) x.m.length)
def PvIn.quad (x:PvIn) (be:Nat):List Nat:=(List.range (2*x.L.k-1)).map (MB x.L.p x.L.k (2*x.L.k-1) be (Ek x.L.p x.L.block x.l3 x.l3.length) (NA x.L x.m x.crs) (aH x.L x.m x.crs) x.L.b)
def PvIn.all (x:PvIn) (O:Jb):List Nat:=x.code (x.ch O).al++x.lin (x.ch O).rh++x.quad (x.ch O).be
def PvIn.pos (x:PvIn) (O:Jb):List Nat:=Wx (x.t2 O) (x.all O) x.L.n x.L.queries
def PvIn.oF (x:PvIn) (O:Jb):Jb:=UN (x.t2 O) (x.all O) x.L.queries
def PvIn.pr (x:PvIn) (O:Jb):BE:=⟨x.root O,x.code (x.ch O).al,x.lin (x.ch O).rh,x.quad (x.ch O).be,(x.pos O).map fun i=>x.cols.getD i [],(x.pos O).map fun i=>x.l4.getD i 0,(x.pos O).map fun i=>Bp (x.tree O) i⟩
theorem zBa:∀ (d:Nat) (O:Jb) (l:List Nat),qw O -> (∀ x∈l,x<nc) -> ∀ r∈rn d O l,∀ x∈r,x<nc
 | 0,_,l,_,hl=>fun r hr x hx=>by
  have e:r=l:=by simpa [rn] using hr
  subst e;exact hl x hx
 | d+1,O,l,hO,hl=>fun r hr x hx=>by
  rcases Kk.1 (show r∈l :: rn d (Nc O 17 (Ze l)) (bf O 17 (Ze l)) from hr) with e | e
  ·subst e
   exact hl x hx
  ·exact zBa d _ _ (yR hO 17 _) (xO hO 17 _) r e x hx
theorem LV {l:List Nat} (hl:∀ x∈l,x<nc) (i:Nat):l.getD i 0<nc:=by
 by_cases h:i<l.length
 ·exact hl _ (qH 0 h)
 ·rw [Hc,It zO]
  decide
theorem UX {ls:List (List Nat)} (h:∀ r∈ls,∀ x∈r,x<nc) (k j:Nat):(ls.getD k []).getD j 0<nc:=by
 by_cases hk:k<ls.length
 ·exact LV (h _ (qH [] hk)) j
 ·have e:ls.getD k []=[]:=by rw [Hc,It zO];rfl
  rw [e];show 0<nc
  decide
theorem zGb {ls:List (List Nat)} (h:∀ r∈ls,∀ x∈r,x<nc) (i:Nat):∀ x∈Bp ls i,x<nc:=by
 rw [nQ];intro x hx;obtain ⟨k,_,rfl⟩:=ee.1 hx;exact UX h _ _
theorem zAr {ls:List (List Nat)} (h:∀ r∈ls,∀ x∈r,x<nc):PB ls<nc:=by
 unfold PB;cases ls with
 | nil=>decide
 | cons a r =>
  refine LV (h _ ?_) 0;rw [List.getLastD_cons];cases r with
  | nil=>exact .head _
  | cons b q=>rw [List.getLastD_eq_getLast?,List.getLast?_eq_some_getLast (List.cons_ne_nil b q)];exact .tail _ (List.getLast_mem _)
theorem I8:∀ (d:Nat) {O:Jb} {k:Nat} (l:List Nat),l.length=2^d -> Nf O k -> Nf (Zv d O l) (k+2^d)
 | 0,_,_,_,_,h=>Bl h zO
 | d+1,O,k,l,hl,h=>by
  have e:l.length / 2=2^d:=by rw [hl,Zg];omega
  have h1:=FI (lab:=17) (Ze l) h;rw [GL,e] at h1;refine Bl (I8 d (bf O 17 (Ze l)) (by rw [rz,GL,e]) h1) ?_
  rw [Zg];omega
theorem zFo {p:Nat} (h:jc p=true):p <= nc:=by
 rcases Wv h with rfl | rfl | rfl | rfl | rfl | rfl | rfl <;> decide
section
variable (x:PvIn) (O:Jb)
theorem PvIn.cols_len:x.cols.length=x.L.n:=by simp [PvIn.cols]
theorem PvIn.cols_row (l:List Nat) (h:l∈x.cols):l.length=x.m.length+3:=by
 obtain ⟨i,-,rfl⟩:=ee.1 h;simp
theorem PvIn.cols_els (hp:jc x.L.p=true):∀ l∈x.cols,fe l=true:=fun l h=>by
 obtain ⟨i,-,rfl⟩:=ee.1 h;unfold fe;rw [oh];intro y hy;obtain ⟨j,-,rfl⟩:=ee.1 hy;have h1:=qV (p:=x.L.p) (zQ (Cc hp)) x.L.n x.L.n.log2 ((FD x.L x.m x.crs x.l1 x.l2 x.l3).getD j []) (pc x.L.p).1 i;have h2:=zFo hp;exact xc (show QM _ _ _ _<nc from We h1 h2)
theorem PvIn.code_lt (hp:0<x.L.p) (h:∀ y∈x.l1,y<x.L.p) (al:Nat):∀ y∈x.code al,y<x.L.p:=fun y hy=>by
 obtain ⟨k,-,rfl⟩:=ee.1 hy;exact wX hp (fun k=>aK hp h k) _ _
theorem PvIn.lin_lt (hp:0<x.L.p) (h:∀ y∈x.l2,y<x.L.p) (rh:Nat):∀ y∈x.lin rh,y<x.L.p:=fun y hy=>by
 obtain ⟨k,-,rfl⟩:=ee.1 hy;refine yX hp (fun k=>?_) _ _
 cases k with
 | zero=>exact rN hp _ _
 | succ k=>exact aK hp h k
theorem PvIn.quad_lt (hp:0<x.L.p) (be:Nat):∀ y∈x.quad be,y<x.L.p:=fun y hy=>by
 obtain ⟨k,-,rfl⟩:=ee.1 hy;exact mT hp (fun k=>OI hp _ _ _) _ _
theorem PvIn.tree_lt (h:qw (x.t1 O).O):∀ r∈x.tree O,∀ y∈r,y<nc:=zBa _ _ _ (yR h 16 _) (xO h 16 _)
theorem PvIn.o2_le {k:Nat} (hn:x.L.n=2^x.dd) (h:Nf (x.t1 O).O k):Nf (x.o2 O) (k+2*x.L.n):=by
 have h1:=FI (lab:=16) (Ni x.cols x.l4) h;rw [AI,x.cols_len] at h1;have h2:=I8 x.dd (bf (x.t1 O).O 16 (Ni x.cols x.l4)) (by rw [rz,AI,x.cols_len,hn]) h1
 rw [<- hn] at h2;exact Bl h2 zO
end
theorem zF0 {w:vu} {g:Nat} {O:Jb} {F:Nat -> Prop} (h:OrcAt w g O F) (st ct:Nat) (bg:st<18446744073709551616) (L:Tb) (hL:Ad L) (P:BE) (S:PS) (hP:Mt w P S) (hO:Nf O 800000) (hlen:(P.code++P.linear++P.quad).length <= 100000) :
  vA prog 66 #[.pointer (vD ⟨g,0,vB⟩),vf #[vd vo st,vd vo ct],vf (Ub L),vf (Im P S)] w fun e w'=>∃ gr d F',e=vn (ve (vD ⟨gr,0,vB⟩) L.queries d) /\
   OrcAt w' g (UN ⟨O,st,ct⟩ (P.code++P.linear++P.quad) L.queries) F' /\ Moved F F' w w' /\ w'.ownsRow w.1.size 3 1 (ve (vD ⟨gr,0,vB⟩) L.queries d) L.queries (wg (Sg (Wx ⟨O,st,ct⟩ (P.code++P.linear++P.quad) L.n L.queries))) /\ ¬F' gr:=by
 obtain ⟨ks,kl,kp,da,Db⟩:=Sw w 129 101 46 #[vd vo st,vd vo ct] (Ub L) (Im P S);obtain ⟨q1,-,-,e1,r1⟩:=Pb hP.code;obtain ⟨q2,-,-,e2,r2⟩:=Pb hP.linear;obtain ⟨q3,-,-,e3,r3⟩:=Pb hP.quad;have hle:S.n1+S.n2+S.n3 <= 100000:=by simp at hlen;omega
 obtain ⟨all,uh⟩:=zEX (P.code++P.linear++P.quad);have dp:∀ x∈all,x<18446744073709551616:=fun x hx=>by
  rw [uh,Tp,Tp] at hx;rcases hx with (hx | hx) | hx
  ·exact e1 x hx
  ·exact e2 x hx
  ·exact e3 x hx
 have Lv:L.queries <= L.n:=by have:=hL.nk;have:=hL.k;omega
 have Ce:=hL.n2;have iP:=h.ok.ans;obtain ⟨Fz,OP⟩:=zEX (Ae O 18 (st :: 3 :: all));obtain ⟨O2,yH⟩:=zEX (Qd O 18 (st :: 3 :: all));have tU:=zH (show Fz<18446744073709551616 by rw [OP];exact rm (iF iP 18 _))
 have Cn:=zH (show Nf O2 900000 by rw [yH];exact Bl (yz hO 18 _) zD)
 have hT1:UN ⟨O,st,ct⟩ (P.code++P.linear++P.quad) L.queries=Nc O2 19 (Wp Fz 0 L.queries):=by rw [<- uh,yH,OP];rfl
 have hT2:Wx ⟨O,st,ct⟩ (P.code++P.linear++P.quad) L.n L.queries=GD O2 Fz 0 L.n L.queries:=by rw [<- uh,yH,OP];rfl
 rw [hT1,hT2];have Fw:=zH OP;have Rm:=zH yH;have YB:=zH uh;have Uh:=zH dp;have Kg:=zH (show all.length <= 100000 by rw [uh];exact hlen)
 have Pp:=zH q1;have jy:=zH q2;have HN3:=zH q3;have R1:=zH r1;have R2:=zH r2;have R3:=zH r3;have ly:=zH h;have HO:=zH hO;have Mf:=zH bg;have HQN:=zH Lv;have HN:=zH Ce;have nF:∀ b,w.1.size <= b -> ¬F b:=fun b hb e=>by have:=h.lt b e;omega
 clear hT1 hT2 OP yH iP Ce Lv dp uh hlen q1 q2 q3 e1 e2 e3 r1 r2 r3 hP hL hO bg h Db;unfold Ub Im at *;go_enter func66,ntmps66
 go_upto_region 1 with fail
 generalize ((w.alloc _).alloc _).alloc _=w1 at ks kl kp da |-;have cp:=kp.cell;have lp:=kp.lt;have Gd:=da.size;have WG:=zA w1 (.cells #[] 22);have JB:=Zr w1 22 (Ba w1.1.size);have td:=(R1.out.below da).below WG;go_wp2_with (at_builtin;refine Wd rfl _ _ rfl jg rfl JB rfl td (De _) zO zS ?_)
 intro v2 w2 Dq Xn Dm;have Fa:=WG.trans (ie JB Xn zS);replace ks:=pa ks Fa;replace kl:=pa kl Fa;replace kp:=pa kp Fa;replace da:=ta da Fa;clear cp JB td WG Xn Dm;have cp:=kp.cell;have Tj:=R2.out.below da;go_wp2_with (at_builtin;refine Wd rfl _ _ rfl jg rfl Dq rfl Tj (De _) zO (by exact Fa.size) ?_)
 intro v3 w3 Bu yh hk3;have Ra:=ie Dq yh Fa.size;have lp0:w.1.size<w1.1.size:=by omega
 have lp1:w.1.size+1<w1.1.size:=by omega
 have ks3:=ks.below Ra lp0;have Bq:=kl.below Ra lp1;have kp3:=kp.below Ra lp;have wK:=da.trans (Ra.mono Gd);have KI:=jb Fa.size Ra.size;clear cp Dq Tj yh hk3 ks kl kp da Ra;have cp:=kp3.cell;have Hx:=R3.out.below wK;go_wp2_with (at_builtin;refine Wd rfl _ _ rfl jg rfl Bu rfl Hx (De _) zO KI ?_)
 intro v4 w4 BD Yn hk4;have Ib:=ie Bu Yn KI;have ks4:=ks3.below Ib lp0;have qz:=Bq.below Ib lp1;have hb04:=wK.trans (Ib.mono Gd);have CD:w4.ownsRow w1.1.size 22 1 v4 (S.n1+S.n2+S.n3) (Qa all):=by
  rw [YB.out]
  simpa [Qa,zy] using BD
 obtain ⟨nv,hnv⟩:=zEX (S.n1+S.n2+S.n3);rw [<- hnv] at CD;have hv4:∃ A' c',v4=ve A' nv c':=by obtain ⟨A',c',e,-⟩:=Yb CD;exact ⟨A',c',e⟩
 obtain ⟨Av,cv,rfl⟩:=hv4;have yG:=zH (XP CD Uh.out);have HB:=zH hb04;have nW0:=nF w.1.size zR;have nW1:=nF (w.1.size+1) (Nat.le_add_right _ _);obtain ⟨NQ,Dd⟩:=zEX (w4.1.size);have se:=zH Dd;have l0:w.1.size<NQ:=by rw [Dd];exact ks4.lt
 have l1:w.1.size+1<NQ:=by rw [Dd];exact qz.lt
 have cs:=ks4.cell;have cl:=qz.cell;clear cp Bu Hx Yn hk4 Ib ks3 Bq kp3 wK BD CD ks4 qz hb04 Fa Gd KI lp lp0 lp1 hnv Dd hle;go_upto_region 4 with fail
 have VQ:Hid (Ui F NQ F w4):=zH (by rw [se.out];exact zDy (ly.out.below HB.out).lt)
 refine fw (F) (F) (NQ) [4,9,15] [0,1,2,3,5,6,7,8,4,9,10,11,12] [(13,129,#[vd vo 0,vd vo 0])] [14,15] zK (Mw.2 ⟨⟨_,rfl,rfl,fun a w=>by go_simp <;> rfl⟩,Ht _⟩) zK ?_
 refine jw ?_;intro Wc Ga ja;have La:Hid (Ui F NQ F Wc):=zH (by rw [Ga.out];exact ⟨VQ.out.size,VQ.out.lt,VQ.out.old⟩)
 have H8:=zH (show OrcAt Wc g O F by rw [Ga.out];exact (ly.out.below HB.out).drew)
 have M8:=zH (show Moved F F w Wc by rw [Ga.out];exact SF (Af HB.out))
 have WQ:=zH (show Lj _ Wc _ _ by rw [Ga.out];exact sD yG.out (w':=w4.drew) zR fun _ _ _=>rfl)
 clear Ga VQ yG;refine yi ?_;refine Nz (f:=?_) (vals:=?_) rfl rfl rfl La ?_ (fun wF Xa=>?_)
 rotate_left 3
 replace H8:=zH (H8.out.below Xa);replace WQ:=zH (BL WQ.out Xa);replace M8:=zH (M8.out.trans (Af Xa));replace ja:=zM (mc F NQ) ja (ze Xa La.out.size);replace La:=zH (Te La.out Xa);refine (qY H8.out st ct 3 Av nv cv all WQ.out Kg.out Mf.out zD (Bl HO.out zD)).mono ?_
 rotate_left
 ·intro w_;go_simp <;> rfl
 rintro e w9 ⟨rfl,F4,h9,m9⟩;clear Xa;refine ⟨_,F4,rfl,m9,h9.lt,?_⟩;replace ja:=zM (mc F NQ) ja (jk La.out (m9));replace La:=zH (Kl La.out (m9) (h9.lt));refine zPU ?_;rw [<- Rm.out] at h9;simp only [<- Fw.out];replace H8:=zH h9;replace M8:=zH (M8.out.trans m9);clear h9 m9 WQ;refine yi ?_;refine Nz (f:=?_) (vals:=?_) rfl rfl rfl La ?_ (fun wF Xa=>?_)
 rotate_left 3
 replace H8:=zH (H8.out.below Xa);replace M8:=zH (M8.out.trans (Af Xa));replace ja:=zM (mc F NQ) ja (ze Xa La.out.size);replace La:=zH (Te La.out Xa);refine (zGm H8.out Fz 0 L.n L.queries HN.out HQN.out tU.out zD Cn.out).mono ?_
 rotate_left
 ·intro w_;go_simp <;> rfl
 rintro e sn ⟨gr,dr,F5,rfl,h10,QF,L8,nr5⟩;clear Xa;refine ⟨_,F5,rfl,QF,h10.lt,?_⟩;replace ja:=zM (mc F NQ) ja (jk La.out (QF));replace La:=zH (Kl La.out (QF) (h10.lt));refine zPU ?_;have OW:=zH (Hg L8 M8.out.size);replace H8:=zH h10;replace M8:=zH (M8.out.trans QF);clear h10 QF L8;refine yi ?_;refine iw [(vD 11,13)] rfl La (fun Ym wE Wb Ng=>?_)
 have tV:=Ng.blk _ (.head _) rfl;clear Ng;unfold Jm Zl;simp only [List.foldl];dsimp only at tV
 generalize Ym 13=g13 at tV  |-;obtain ⟨k13,hg13,hv13⟩:=tV;replace H8:=zH (H8.out.below Wb);replace M8:=zH (M8.out.trans (Af Wb));replace OW:=zH (Za OW.out Wb zR);replace ja:=zM (mc F NQ) ja (ze Wb La.out.size);replace La:=zH (Te La.out Wb)
 refine zPU ?_
 have cE0:=k13.cell 0;have cE1:=k13.cell 1;have fE:=k13.frozen;have lE:w.1.size <= g13:=by omega
 refine Ip ?_;refine ke (mc F NQ) rfl rfl rfl ?_;go_simp;refine ⟨ze ((ZM _ _ hg13).trans (ZM _ _ hg13)) zR,?_⟩
 refine zPU ?_
 refine Vc ?_;have OWE:=zH (EN OW.out k13 zD);have Ta:gr≠g13:=fun e=>OWE.out gr rfl (by rw [e])
 have M9:=Tk (Tk M8.out lE 0 (vd vo Fz)) lE 1 (vd vo L.queries);have H9:=(H8.out.set hv13 (vd vo Fz) (i:=0)).set hv13 (vd vo L.queries) (i:=1);have OW9:=Ye OW.out (u:=(wE.setCell ⟨g13,0,vB⟩ (vd vo Fz)).setCell ⟨g13,1,vB⟩ (vd vo L.queries)) fun b hb=>by
  obtain rfl:gr=b:=Nb hb;rw [Mu _ ⟨g13,1,vB⟩ _ gr Ta,Mu _ ⟨g13,0,vB⟩ _ gr Ta]
 generalize ((wE.setCell ⟨g13,0,vB⟩ (vd vo Fz)).setCell ⟨g13,1,vB⟩ (vd vo L.queries))=wZ at M9 H9 OW9 |-;clear cE0 cE1 fE ja;go_wp2;go_ret
 exact ⟨gr,dr,F5,rfl,H9,M9,OW9,nr5⟩
theorem zHN (O:Jb) (st ct root:Nat):(Fu ⟨O,st,ct⟩ root).O=Qd (Qd (Qd (Qd O 18 [st,2,root]) 19 [Ae O 18 [st,2,root],0]) 19 [Ae O 18 [st,2,root],1]) 19 [Ae O 18 [st,2,root],2]:=rfl
theorem G8 {O:Jb} {k:Nat} (h:Nf O k) (st ct root:Nat):Nf (Fu ⟨O,st,ct⟩ root).O (k+4):=by
 rw [zHN];exact yz (yz (yz (yz h 18 _) 19 _) 19 _) 19 _
theorem zGt {w w7 w16 wr wf:vu} {F F4:Nat -> Prop} {gP N R:Nat} (hb:vz w.1.size w w7) (hF:∀ j,F j -> j<w.1.size) (m:Moved F F4 w7 w16) (pj:N <= w16.1.size) (Ml:w16.1.size <= N) (hgP:w7.1.size <= gP) (hgN:gP<N) (hR:w.1.size <= R) (hR7:R<w7.1.size)
  (Va:Ik gP N w16 wr) (tf:N <= wr.1.size) (IK:∀ j,j≠R -> wf.1[j]?=wr.1[j]?) (hfs:wf.1.size=wr.1.size) (ho:wf.os=wr.os /\ wf.tape=wr.tape /\ wf.output=wr.output) (h16:∀ j,F4 j -> j<w16.1.size) (nP4:¬F4 gP) :
  (∀ j,F4 j -> wf.1[j]?=w16.1[j]?) /\ w16.1.size <= wf.1.size /\ Moved F F4 w wf /\ ∀ u,Yd (fun b=>w.1.size <= b /\ b<wf.1.size /\ ¬F4 b) wf u ->
   (∀ j,w.1.size <= j -> j<N -> j≠gP -> j≠R -> ¬F4 j -> u.1[j]?=w16.1[j]?) /\ (∀ j,N <= j -> j<wr.1.size -> u.1[j]?=wr.1[j]?) /\ (∀ j,R<j -> j<w7.1.size -> u.1[j]?=w7.1[j]?) /\ w7.1.size <= u.1.size:=by
 have s1:=hb.size;have s2:=m.size;have hA:∀ j,j<N -> j≠gP -> j≠R -> wf.1[j]?=w16.1[j]?:=fun j h1 h2 h3=>(IK j h3).trans (Va.2.2.2.2 j h1 h2)
 have hB7:∀ j,j<w7.1.size -> ¬F j -> j≠R -> wf.1[j]?=w7.1[j]?:=fun j h1 h2 h3=>(hA j zO zO h3).trans (m.block j h1 h2)
 refine ⟨fun j hj=>hA j (zQ (h16 j hj)) (fun e=>nP4 (e ▸ hj)) (fun e=>?_),zO,⟨ho.1.trans (Va.1.trans (m.os.trans hb.os)),ho.2.1.trans (Va.2.1.trans (m.tape.trans hb.tape)),ho.2.2.trans (Va.2.2.1.trans (m.output.trans hb.output)),zO,fun j h1 h2=>(hB7 j zO h2 zO).trans (hb.block j h1),fun j hj=>(m.foot j hj).imp id fun h=>zO⟩,fun u a=>⟨fun j h1 h2 h3 h4 h5=>(a.block j ⟨h1,zO,h5⟩ zO).trans (hA j h2 h3 h4),fun j h1 h2=>(a.block j ⟨zO,zO,fun e=>by have:=h16 j e;omega⟩ zO).trans (IK j zO),fun j h1 h2=>?_,by have:=a.size;omega⟩⟩
 ·rcases m.foot j hj with h | h
  ·have:=hF j h;omega
  ·omega
 ·refine (a.block j ⟨zO,zO,fun e=>?_⟩ zO).trans (hB7 j h2 (fun e=>by have:=hF j e;omega) zO)
  rcases m.foot j e with h | h
  ·have:=hF j h;omega
  ·omega
theorem D7 {i Q:Nat} (h:i<Q):Q-(intOf (vd vq ((i+1:Nat):Int))).toNat<Q-(intOf (vd vq i)).toNat:=by
 simp only [intOf,En];omega
theorem SN (g:Nat):∀ (xs:List vw) (k:Nat) (w:vu),(Pc w g xs k).1.size=w.1.size /\ (Pc w g xs k).os=w.os /\ (Pc w g xs k).tape=w.tape /\ (Pc w g xs k).output=w.output
 | [],_,_=>⟨rfl,rfl,rfl,rfl⟩
 | x :: xs,k,w=>by
  have h:=SN g xs (k+1) (w.setCell ⟨g,k,vB⟩ x);exact ⟨h.1.trans (by simp [vE]),h.2.1.trans rfl,h.2.2.1.trans rfl,h.2.2.2.trans rfl⟩
theorem store7 {w:vu} {g:Nat} {t:vy} {y0 y1 y2 y3 y4 y5 y6:vw} (k:Blk w g t #[y0,y1,y2,y3,y4,y5,y6]) (x0 x1 x2 x3 x4 x5 x6:vw):∃ wf,(((((((w.setCell ⟨g,0,vB⟩ x0).setCell ⟨g,1,vB⟩ x1).setCell ⟨g,2,vB⟩ x2).setCell ⟨g,3,vB⟩ x3).setCell ⟨g,4,vB⟩ x4).setCell ⟨g,5,vB⟩ x5).setCell ⟨g,6,vB⟩ x6)=wf /\ Blk wf g t #[x0,x1,x2,x3,x4,x5,x6] /\ (∀ j,j≠g -> wf.1[j]?=w.1[j]?) /\ wf.1.size=w.1.size /\ wf.os=w.os /\ wf.tape=w.tape /\ wf.output=w.output :=
 ⟨_,rfl,Jg [x0,x1,x2,x3,x4,x5,x6] k rfl,fun _ hj=>If (fun e=>hj e) [x0,x1,x2,x3,x4,x5,x6] 0 w,SN g [x0,x1,x2,x3,x4,x5,x6] 0 w⟩
theorem F9 {w7 w16 wr u:vu} {F4:Nat -> Prop} {gP N R B0 B6 B13 B15 i k1 k2 k3:Nat} {x:PvIn} {O:Jb} {cd ln qd pos:List Nat} {tr:List (List Nat)} {P1 P2 P3 Ac As Ap:Option vx} {p1 p2 p3 ca cs cp:Nat} {xs:Nat -> vw} {nn:Nat -> Nat} {vs:Nat -> List vw}
  (hU:∀ j,B0 <= j -> j<N -> j≠gP -> j≠R -> ¬F4 j -> u.1[j]?=w16.1[j]?) (hV:∀ j,N <= j -> j<wr.1.size -> u.1[j]?=wr.1[j]?) (hW:∀ j,R<j -> j<w7.1.size -> u.1[j]?=w7.1[j]?) (hus:w7.1.size <= u.1.size)
  (b0:B0 <= B13) (b1:R<B13) (b2:gP<B13) (b3:B15 <= N) (b4:R<B6) (b5:B6 <= w7.1.size) (b6:w7.1.size <= N) (n1:∀ b,B13 <= b -> b<B15 -> ¬F4 b)
  (o1:w16.ownsRow B13 22 1 (ve P1 k1 p1) k1 (Qa cd)) (o2:w16.ownsRow B13 22 1 (ve P2 k2 p2) k2 (Qa ln)) (o3:w16.ownsRow B13 22 1 (ve P3 k3 p3) k3 (Qa qd))
  (l1:(∀ b,(ve P1 k1 p1).ownBlock=vD b -> B13 <= b /\ b<B15) /\ (∀ b,(ve P2 k2 p2).ownBlock=vD b -> B13 <= b /\ b<B15) /\ ∀ b,(ve P3 k3 p3).ownBlock=vD b -> B13 <= b /\ b<B15)
  (c1:∀ y∈cd,y<18446744073709551616) (c2:∀ y∈ln,y<18446744073709551616) (c3:∀ y∈qd,y<18446744073709551616) (Ev:cd=x.code (x.ch O).al) (Me:ln=x.lin (x.ch O).rh) (Gx:qd=x.quad (x.ch O).be)
  (Bc:OwnF N wr (i+3) tyF xs nn vs) (Ed:InvP pos x.cols x.l4 (fun z=>Bp tr z) x.dd B6 w7 i xs nn vs) (Yi:pos.length=i) (ao:pos=x.pos O) (oo:tr=x.tree O) (e0:xs 0=ve Ac i ca) (e1:xs 1=ve As i cs) (e2:xs 2=ve Ap i cp)
  (hroot:x.root O<nc) (kL:fe x.l4=true) (pn:∀ r∈x.tree O,∀ y∈r,y<nc) :
  Mt u (x.pr O) ⟨P1,k1,p1,P2,k2,p2,P3,k3,p3,Ac,i,ca,As,i,cs,Ap,i,cp⟩:=by
 have rW:OwnF N u (i+3) tyF xs nn vs:=⟨fun j hj=>Ye (Bc.own j hj) fun b hb=>hV b ((Bc.own j hj).lt b hb).1 ((Bc.own j hj).lt b hb).2,Bc.apart⟩
 have htk:pos.take i=pos:=EC zO;refine ⟨rm hroot,?_,?_,?_,?_,?_,?_⟩
 ·show RWd u [ve P1 k1 p1] (x.code (x.ch O).al)
  rw [<- Ev];exact Sf (Ye o1 fun b hb=>by have h1:=l1.1 b hb;exact hU b zO zO zO zO (n1 b h1.1 h1.2)) c1
 ·show RWd u [ve P2 k2 p2] (x.lin (x.ch O).rh)
  rw [<- Me];exact Sf (Ye o2 fun b hb=>by have h1:=l1.2.1 b hb;exact hU b zO zO zO zO (n1 b h1.1 h1.2)) c2
 ·show RWd u [ve P3 k3 p3] (x.quad (x.ch O).be)
  rw [<- Gx];exact Sf (Ye o3 fun b hb=>by have h1:=l1.2.2 b hb;exact hU b zO zO zO zO (n1 b h1.1 h1.2)) c3
 ·show RSl 1 RWd u [ve Ac i ca] ((x.pos O).map fun k=>x.cols.getD k [])
  rw [<- ao,<- e0];have hc:=Ed.c;rw [htk] at hc;exact (zFq hc hus (fun b h1 h2=>hW b zO h2) (rW.own 0 zO) b6 b5).here
 ·show RWd u [ve As i cs] ((x.pos O).map fun k=>x.l4.getD k 0)
  rw [<- ao];have ho:=rW.own 1 zO;have hs:=Ed.s;rw [htk] at hs;rw [e1,Ed.n1,hs] at ho;exact Sf ho fun y hy=>by
   obtain ⟨k,-,rfl⟩:=ee.1 hy;exact rm (LV (fun y hy=>of_decide_eq_true (oh.1 kL y hy)) k)
 ·show RSl 1 RWd u [ve Ap i cp] ((x.pos O).map fun k=>Bp (x.tree O) k)
  rw [<- ao,<- oo,<- e2];exact zGc (pf:=fun z=>Bp tr z) rW Ed.p Ed.r Yi fun z y hy=>rm (zGb (by rw [oo];exact pn) z y hy)
theorem O6 {p:Nat} {n:Int} {l:List (Int × Nat)} (h:Cj p n l=true) {i:Nat} (hi:i<l.length):xu p n l i=false:=by
 unfold Cj at h;have h1:=oh.1 h i (Mj.2 hi)
 simpa using h1
theorem eX {p:Nat} {n:Int} {l:List (Int × Nat)} (h:Cj p n l=true):∀ i,i<l.length -> (i:Int) <= (l.getD i (0,0)).1 /\ (l.getD i (0,0)).1<n /\ (l.getD i (0,0)).2<p
 | 0,hi=>by
  have h1:=O6 h hi;unfold xu at h1;simp only [Bool.or_eq_false_iff,Ly,Bool.and_eq_false_iff] at h1;omega
 | i+1,hi=>by
  have h1:=O6 h hi;have h2:=eX h i zO;unfold xu at h1;simp only [Bool.or_eq_false_iff,Ly,Bool.and_eq_false_iff,Nat.add_sub_cancel] at h1;omega
theorem fX {p:Nat} {n:Int} {l:List (Int × Nat)} (h:Cj p n l=true) (hn:0 <= n):(l.length:Int) <= n:=by
 by_cases hl:l.length=0
 ·omega
 ·have:=eX h (l.length-1) zO
  omega
theorem iX {p:Nat} {n:Int} {l:List (Int × Nat)} (h:Cj p n l=true):∀ t∈l,0 <= t.1 /\ t.1<n /\ t.2<p:=fun t ht=>by
 obtain ⟨i,hi,rfl⟩:=Vq ht;have:=eX h i hi;rw [Hc,Ec hi] at this;simp only [Option.getD_some] at this;omega
theorem zA4 {p:Nat} {pub vars:Int} {rows:List sc} (h:Jd p pub vars rows=true):∀ r∈rows,Cj p vars r.a=true /\ Cj p vars r.b=true /\ Cj p vars r.c=true:=fun r hr=>by
 unfold Jd at h;rw [pe] at h;have h1:=oh.1 h.2 r hr;unfold Cp at h1;rw [pe,pe] at h1;exact ⟨h1.1.1,h1.1.2,h1.2⟩
theorem GQ {p:Nat} {pub vars:Int} {rows:List sc} (h:Jd p pub vars rows=true):0 <= pub /\ pub<vars /\ vars <= 65536 /\ rows.length <= 16384:=by
 simp only [Jd,pe,Mm,Ly] at h;omega
theorem zA5 {p:Nat} {pub vars:Int} {rows:List sc} (h:Jd p pub vars rows=true):fY rows:=fun r hr=>by
 have h1:=zA4 h r hr;have h2:=GQ h;have a1:=fX h1.1 zO;have a2:=fX h1.2.1 zO;have a3:=fX h1.2.2 zO;omega
theorem J6:∀ (rows:List sc),(rows.flatMap wN).length=3*rows.length+2*MI rows
 | []=>rfl
 | r :: rows=>by
  have h1:=J6 rows;rw [List.flatMap_cons,qh,h1];simp only [wN,GB,Od,qh,Yh,K6,MI,List.map_cons,List.sum_cons];simp
  omega
theorem KZ {p:Nat} {pub vars:Int} {rows:List sc} (h:Jd p pub vars rows=true) (hs:mR rows):VD p pub vars rows where
 pl:=(Cc (LI h)).2
 pubI:=by have:=GQ h;omega
 varI:=by have:=GQ h;omega
 n:=(GQ h).2.2.2
 sides:=fun r hr k hk=>by
  have h1:=zA5 h r hr;unfold Od;split
  ·exact h1.1
  ·split
   ·exact h1.2.1
   ·exact h1.2.2
 terms:=fun r hr k hk t ht=>by
  have h1:=zA4 h r hr;have h2:=GQ h;have h3:=(Cc (LI h)).2;unfold Od at ht;split at ht
  ·have:=iX h1.1 t ht;omega
  ·split at ht
   ·have:=iX h1.2.1 t ht;omega
   ·have:=iX h1.2.2 t ht;omega
 len:=by
  have h1:=hs (zA5 h);simp only [Wm,qh,Yh,List.length_nil,J6];omega
theorem zCk (f:Nat -> Nat) (n i:Nat) (h:i<n):(Fe f n (i+1)).take (i+1)=(Fe f n i).take i++[(Fe f n (i+1)).getD i 0]:=by
 rw [Cy (by rw [Qv];exact h),zGg,Hc,Ec (by rw [Qv];exact h)]
 rfl
theorem XU (s:Tr):∀ k,(ji s k).O=Nc s.O 19 (Wp s.st s.ct k)
 | 0=>rfl
 | k+1=>by
  rw [BZ,<- XU s k];show Qd (ji s k).O 19 [(ji s k).st,(ji s k).ct]=_
  rw [DO,CO]
theorem zCh (s:Tr) (k:Nat):Yq s.O s.st s.ct k=Ps (ji s k):=by
 unfold Yq Ps;rw [XU,DO,CO]
theorem zA8 {s:Tr} {k c:Nat} (h:Vm s k c):∀ i,Vm (ji s i) (k+i) (c+i)
 | 0=>h
 | i+1=>VN (zA8 h i)
theorem zId (s:Tr) (all:List Nat) (n q:Nat) (h:q <= n):Wx s all n q=(List.range n).filter fun x=>((Fe (fun k=>Ps (ji (Zh s 3 all) k)) n q).take q).contains x:=by
 unfold Wx GD;have e:Fe (Yq (Zh s 3 all).O (Zh s 3 all).st 0) n q=Fe (fun k=>Ps (ji (Zh s 3 all) k)) n q:=CZ q fun k _=>zCh (Zh s 3 all) k
 rw [e];exact zGl _ n q h
theorem zIc (s:Tr) (all:List Nat) (q:Nat):UN s all q=(ji (Zh s 3 all) q).O:=(XU (Zh s 3 all) q).symm
theorem TW (l:List Nat) (i x:Nat):(wg (Sg l)).set i (vd vq x)=wg (Sg (l.set i x)):=by simp [wg,Sg,List.map_set]
theorem cV {cur:Array vw} {n:Nat} {xs:List vw} (h:cur.toList.take n=xs) (i:Nat) (v:vw):(cur.setIfInBounds i v).toList.take n=xs.set i v:=by
 rw [Array.toList_setIfInBounds,<- h,List.take_set]
theorem GO {cur:Array vw} {n:Nat} {l:List Nat} (h:cur.toList.take n=wg (Sg l)) {i:Nat} (hi:i<n) (hl:l.length=n):cur[i]?=vD (vd vq ((l.getD i 0:Nat):Int)):=by
 have h1:(cur.toList.take n)[i]?=cur[i]?:=by rw [List.getElem?_take,Lb hi];simp
 rw [<- h1,h,Hc,Ec (show i<l.length by omega)]
 simp [wg,Sg,show i<l.length by omega]
theorem zCy {cur:Array vw} {n i j:Nat} {l:List Nat} (h:cur.toList.take n=wg (Sg l)):((cur.setIfInBounds i (vd vq ((l.getD j 0:Nat):Int))).setIfInBounds j (vd vq ((l.getD i 0:Nat):Int))).toList.take n=wg (Sg (Gu l i j)):=by
 rw [cV (cV h i _) j _,TW,TW]
 rfl
theorem zFa (i:Nat):wg (Sg (List.range (i+1)))=wg (Sg (List.range i))++[vd vq i]:=by simp [wg,Sg,List.range_succ]
theorem zE9 (c:Nat -> Bool) (i:Nat):wg (Sg ((List.range (i+1)).filter c))=wg (Sg ((List.range i).filter c))++(if c i then [vd vq i] else []):=by
 cases h:c i <;> simp [wg,Sg,List.range_succ,List.filter_append,h]
theorem zEB (c:Nat -> Bool) (i:Nat):((List.range (i+1)).filter c).length=((List.range i).filter c).length+(if c i then 1 else 0):=by
 cases h:c i <;> simp [List.range_succ,List.filter_append,h]
theorem zIb {K:Nat -> Prop} {s:Tr} {k ct:Nat} (h:Vm s k ct) (hk:k <= 800000) (L:Tb) (hL:Ad L) (A A1 A2 A3:Option vx) (n c n1 c1 n2 c2 n3 c3:Nat) (l1 l2 l3:List Nat) (w:vu) (hq:Hd K w fun u=>Md u [ve A n c] s.O.qs)
  (h1:RWd w [ve A1 n1 c1] l1) (h2:RWd w [ve A2 n2 c2] l2) (h3:RWd w [ve A3 n3 c3] l3) (hlen:(l1++l2++l3).length <= 100000) :
  vA prog 80 #[vf (El s (ve A n c)),vf (Ub L),vf #[ve A1 n1 c1,ve A2 n2 c2,ve A3 n3 c3]] w fun e w'=>∃ A' n' c' v,e=vn (.tuple #[v,vf (El (ji (Zh s 3 (l1++l2++l3)) L.queries) (ve A' n' c'))]) /\
   w'.ownsRow w.1.size 3 1 v L.queries (wg (Sg (Wx s (l1++l2++l3) L.n L.queries))) /\
   Hd (fun b=>K b \/ w.1.size <= b) w' (fun u=>Md u [ve A' n' c'] (ji (Zh s 3 (l1++l2++l3)) L.queries).O.qs) /\ vz w.1.size w w':=by
 obtain ⟨ks,kl,ka,kr,da,Db⟩:=fH w 153 35 161 153 (El s (ve A n c)) (Ub L) #[ve A1 n1 c1,ve A2 n2 c2,ve A3 n3 c3] #[.bool false,vd vo 0,vd vq 0,ve vB 0 0,ve vB 0 0,ve vB 0 0,vd vo 0,vd vo 0];obtain ⟨q1,-,-,e1,r1⟩:=Pb h1;obtain ⟨q2,-,-,e2,r2⟩:=Pb h2;obtain ⟨q3,-,-,e3,r3⟩:=Pb h3;have hle:n1+n2+n3 <= 100000:=by simp at hlen;omega
 obtain ⟨all,uh⟩:=zEX (l1++l2++l3);have dp:∀ x∈all,x<18446744073709551616:=fun x hx=>by
  rw [uh,Tp,Tp] at hx;rcases hx with (hx | hx) | hx
  ·exact e1 x hx
  ·exact e2 x hx
  ·exact e3 x hx
 obtain ⟨a,ha⟩:=zEX (Zh s 3 all);have Kq:=zH (fun A1 n1 c1 w1 (hb:vz w.1.size w w1) (h1:RWd w1 [ve A1 n1 c1] all)=>by have:=dZ (K:=fun b=>K b /\ b<w.1.size) h (jb hk zD) A A1 n c n1 c1 3 all w1 (sb (wk hq) (yc hb)) h1 zD (by rw [uh];exact hlen);rw [<- ha] at this;exact this)
 have TA:=zH (show Vm a (k+1) 0 by rw [ha];exact OT h 3 all)
 have YB:=zH uh;have Uh:=zH dp;have R1:=zH r1;have R2:=zH r2;have R3:=zH r3;have Hj:=zH hL;have HTP:=zH (zId s all L.n L.queries (by have:=hL.nk;have:=hL.k;omega))
 rw [<- ha] at HTP;have Tu:=zH (show (Wx s all L.n L.queries).length=L.queries from JS _ _ _ _ _ (by have:=hL.nk;have:=hL.k;omega))
 obtain ⟨Cr,dW⟩:∃ f:Nat -> Nat,f=fun k=>Ps (ji a k):=⟨_,rfl⟩
 rw [<- dW] at HTP;have HF:=zH dW;clear dW;rw [<- uh,<- ha];clear hq h1 h2 h3 hlen q1 q2 q3 e1 e2 e3 r1 r2 r3 dp uh ha hL h Db;unfold El Ub at *;go_enter func80,ntmps80
 go_upto_region 2 with fail
 generalize (((w.alloc _).alloc _).alloc _).alloc _=w1 at ks kl ka kr da |-;have ca:=ka.cell;have Tf:w1.ownsRow w1.1.size 22 1 (ve vB 0 0) 0 []:=⟨rfl, .inl ⟨rfl,rfl⟩⟩;have td:=R1.out.below da;go_wp2_with (at_builtin;refine Wd rfl _ _ rfl jg rfl Tf rfl td (De _) zO zR ?_)
 intro v2 w2 Dq Xn Dm;have Fa:=ie Tf Xn zR;have l0:w.1.size<w1.1.size:=Nat.lt_of_le_of_lt (Nat.le_add_right _ 3) kr.lt;have l1:w.1.size+1<w1.1.size:=Je (Nat.add_lt_add_left (by decide:1<3) _) kr.lt
 have l2:w.1.size+2<w1.1.size:=Je (Nat.add_lt_add_left (by decide:2<3) _) kr.lt
 have l3:w.1.size+3<w1.1.size:=kr.lt;have Gd:w.1.size <= w1.1.size:=Nat.le_of_lt l0;have sz2:=Fa.size;replace ks:=pa ks Fa;replace kl:=pa kl Fa;replace ka:=pa ka Fa;replace kr:=pa kr Fa;replace da:=ta da Fa;clear ca Tf td Xn Dm Fa;have ca:=ka.cell;have Tj:=R2.out.below da;go_wp2_with (at_builtin;refine Wd rfl _ _ rfl jg rfl Dq rfl Tj (De _) zO (by exact sz2) ?_)
 intro v3 w3 Bu yh hk3;have Ra:=ie Dq yh sz2;have ks3:=ks.below Ra l0;have Bq:=kl.below Ra l1;have ka3:=ka.below Ra l2;have zj:=kr.below Ra l3;have wK:=da.trans (Ra.mono Gd);have KI:=jb sz2 Ra.size;clear ca Dq Tj yh hk3 ks kl ka kr da Ra sz2;have ca:=ka3.cell;have Hx:=R3.out.below wK;go_wp2_with (at_builtin;refine Wd rfl _ _ rfl jg rfl Bu rfl Hx (De _) zO (by exact KI) ?_)
 intro v4 w4 BD Yn hk4;have Ib:=ie Bu Yn KI;have ks:=ks3.below Ib l0;have kl:=Bq.below Ib l1;have kr:=zj.below Ib l3;have da:=wK.trans (Ib.mono Gd);have sz4:=jb KI Ib.size;have CD:w4.ownsRow w1.1.size 22 1 v4 (n1+n2+n3) (Qa all):=by
  rw [YB.out]
  simpa [Qa,zy] using BD
 obtain ⟨Av,cv,rfl,-⟩:=Yb CD;have HC:=zH (Kq.out Av (n1+n2+n3) cv w4 da (Sf CD Uh.out));have W4:=zH (show w.1.size+4 <= w4.1.size from kr.lt)
 clear ca Bu Hx Yn hk4 Ib ks3 Bq ka3 zj wK BD CD KI sz4 l0 l1 l2 l3 Gd hle Kq R1 R2 R3;have cs:=ks.cell;go_wp2_with fail
 refine HC.out.mono ?_;rintro e w5 ⟨A2,m2,ai,rfl,uk,Fa⟩;replace ks:=pa ks Fa;replace kl:=pa kl Fa;replace kr:=pa kr Fa;replace da:=ta da Fa;have jB:=S4 uk W4.out;clear Fa uk HC cs;have Tw:=ks.cell;have Yw:=ks.frozen;have Eh:=Jg [.bool a.O.ideal,vd vo a.O.st,vd vq a.O.dr,ve A2 m2 ai,ve vB 0 0,ve vB 0 0,vd vo a.st,vd vo a.ct] ks rfl;have Ch:=(If (g:=w.1.size) zO [.bool a.O.ideal,vd vo a.O.st,vd vq a.O.dr,ve A2 m2 ai,ve vB 0 0,ve vB 0 0,vd vo a.st,vd vo a.ct] 0 w5).trans kl;have Dh:=(If (g:=w.1.size) zO [.bool a.O.ideal,vd vo a.O.st,vd vq a.O.dr,ve A2 m2 ai,ve vB 0 0,ve vB 0 0,vd vo a.st,vd vo a.ct] 0 w5).trans kr;have Wi:=aj (xs:=[.bool a.O.ideal,vd vo a.O.st,vd vq a.O.dr,ve A2 m2 ai,ve vB 0 0,ve vB 0 0,vd vo a.st,vd vo a.ct]) (g:=w.1.size) da zO;have mF:=sb jB (Pj (g:=w.1.size) (fun h=>h.elim (fun h=>by have:=h.2;omega) (fun h=>zO)) [.bool a.O.ideal,vd vo a.O.st,vd vq a.O.dr,ve A2 m2 ai,ve vB 0 0,ve vB 0 0,vd vo a.st,vd vo a.ct] w5)
 have Ah:w5.1.size <= (Pc w5 (w.1.size) [.bool a.O.ideal,vd vo a.O.st,vd vq a.O.dr,ve A2 m2 ai,ve vB 0 0,ve vB 0 0,vd vo a.st,vd vo a.ct] 0).1.size:=by simp [Pc,vE]
 simp only [Pc,Re] at Eh Ch Dh Wi mF Ah
 try simp only [Nat.reduceAdd] at Eh Ch Dh Wi mF Ah
 have Kj:=zH Eh;have Ij:=zH Ch;have Jj:=zH Dh;have Gl:=zH Wi;have CJ:=zH mF;have Dn:=zH Ah;clear Eh Ch Dh Wi mF ks kl kr da jB Ah;go_upto_region 6 with fail
 generalize vE (vE (vE (vE (vE (vE (vE (vE (w5) _ _) _ _) _ _) _ _) _ _) _ _) _ _) _ _=w6 at Kj Ij Jj Gl CJ Dn  |-;clear Tw Yw;have ks:Blk w6 _ _ _:=Kj.out;have kl:Blk w6 _ _ _:=Ij.out;have kr:Blk w6 _ _ _:=Jj.out;have da:=Gl.out;have jB:=CJ.out;clear Kj Ij Jj Gl CJ;have hd6:=wk jB;have W6:=zH (show w.1.size+4 <= w6.1.size from kr.lt)
 have HMK:=zH (fun w=>zEW L.n (zQ Hj.out.n2) w)
 have KS6:=zH ks;have Xh:=zH kr;have Kh:=zH da;have Om:=zH hd6;have Gn:=zH kl;clear ks kr da hd6 jB Dn kl W4;go_wp2_with fail
 go_loopw [9,10] (fun v y wr=>∃ i:Nat,i <= L.n /\ y=vd vq i /\ wr.ownsRow w6.1.size 3 1 v i (wg (Sg (List.range i))) /\ vz w6.1.size w6 wr) (fun _ y _=>L.n-(intOf y).toNat)
 case atStart=>exact ⟨0,Qb _,rfl,⟨rfl, .inl ⟨rfl,rfl⟩⟩,Kb _ _⟩
 case round =>
  obtain ⟨i,hi,rfl,oa,tb⟩:=hrel;have kl:=Gn.out.below tb Gn.out.lt;have cl:=kl.cell;have n2:=Hj.out.n2;by_cases ya:i<L.n
  ·have g2:(i:Int)<L.n:=by omega
   have iJ:=zH (zFa i);go_wp2_with (at_builtin;refine Wd rfl _ _ rfl NO rfl (oa.alloc _) rfl (gg _ _ _) (uX [(i:Int)]) zO (by simp;have:=tb.size;omega) ?_)
   intro v' wn Ua Ma Cb;have ma:=zA wr (.cells #[vd vq i] 3);have hB:=ie (oa.alloc _) Ma (by simp;have:=tb.size;omega)
   replace tb:=(Nk tb ma tb.size).trans hB;replace oa:wn.ownsRow w6.1.size 3 1 v' (i+1) (wg (Sg (List.range (i+1)))):=by rw [iJ.out];exact Ua
   clear Ua Ma Cb ma hB kl cl;go_wp2
   go_roundw
   case rel=>exact ⟨i+1,ya,by go_num,oa,tb⟩
   case measure=>simp [intOf];omega
  ·obtain rfl:i=L.n:=by omega
   rcases oa.2 with ⟨-,h0⟩ | ⟨gp,cap,cur,rfl,Zt,hpb,hcap,Be,Db,aW⟩
   ·exact absurd h0 (by obtain ⟨j,hj⟩:=Hj.out.n;rw [hj];exact Nat.ne_of_gt (Nat.two_pow_pos j))
   have kp:Blk wr gp 3 cur:=hpb;have hgp4:w.1.size+4 <= gp:=jb W6.out Zt;rw [Ns] at aW;have HCUR:=zH aW;have HCAP:=zH hcap;have HMX:=zH Be;have HGP:=zH Zt;have ks:=KS6.out.below tb KS6.out.lt;have kr:=Xh.out.below tb Xh.out.lt;have da:=ta Kh.out tb;have hdq:=sb Om.out (yc tb);clear oa hpb hcap Be Db aW Zt tb hi ya;obtain ⟨zb,uL⟩:=zEX (Rn L.n fun _=>false)
   have ah:=fun w=>HMK.out w
   rw [<- uL] at ah;have HZB:=zH uL;clear uL;have Yi:=kp.lt;go_wp2_with fail
   have ma:=zA wr (.cells zb 4);have kb:=Blk.new wr 4 zb;replace ks:=pa ks ma;replace kl:=pa kl ma;replace kr:=pa kr ma;replace kp:=pa kp ma;replace da:=ta da ma;replace hdq:=sb hdq (yc ma);generalize wr.alloc _=w8 at kb ks kl kr kp da hdq |-;generalize wr.1.size=gb at kb Yi |-;have HGP6:=zH (show w6.1.size <= gp from HGP.out)
   obtain ⟨KX,uH⟩:∃ KX:Nat -> Prop,KX=fun b=>(K b /\ b<w.1.size) \/ (w.1.size+4 <= b /\ b≠gp /\ b≠gb):=⟨_,rfl⟩
   have tj:Hd KX w8 fun u=>Md u [ve A2 m2 ai] a.O.qs:=Vn hdq fun b hb=>by
    rw [uH];have h6:=HGP6.out;exact hb.1.elim .inl fun h=>.inr ⟨h,by have:=hb.2;omega,by have:=hb.2;omega⟩
   have Qp:=zH (show ¬KX w.1.size by rw [uH];exact fun h=>h.elim (fun h=>by have:=h.2;omega) (fun h=>by have:=h.1;omega))
   have HNR:=zH (show ¬KX (w.1.size+3) by rw [uH];exact fun h=>h.elim (fun h=>by have:=h.2;omega) (fun h=>by have:=h.1;omega))
   have CG:=zH (show ¬KX gp by rw [uH];exact fun h=>h.elim (fun h=>by have:=h.2;omega) (fun h=>h.2.1 rfl))
   have HNB:=zH (show ¬KX gb by rw [uH];exact fun h=>h.elim (fun h=>by have:=h.2;omega) (fun h=>h.2.2 rfl))
   have HNW:=zH (show ∀ b,gb<b -> KX b by rw [uH];exact fun b hb=>.inr ⟨zO,zO,zO⟩)
   have HKO:=zH (show ∀ b,KX b -> K b \/ w.1.size <= b by rw [uH];exact fun b hb=>hb.elim (fun h=>.inl h.1) (fun h=>.inr (jb (Nat.le_add_right _ 4) h.1)))
   have Io:=zH (show Fe Cr L.n 0=List.range L.n from rfl)
   have UI:=zH (show zb=Rn L.n fun x=>((Fe Cr L.n 0).take 0).contains x by rw [HZB.out];exact Y1 fun i _=>zS)
   rw [UI.out] at kb;clear hdq uH ah ma HMK;go_wp2_with fail
   go_loopw [12] (fun y wr=>∃ (i:Nat) (A':Option vx) (n' c':Nat) (cur:Array vw),i <= L.queries /\ y=vd vq i /\ Blk wr w.1.size 153 #[.bool (ji a i).O.ideal,vd vo ((ji a i).O.st:Int),vd vq ((ji a i).O.dr:Int),ve A' n' c',ve vB 0 0,ve vB 0 0,vd vo ((ji a i).st:Int),vd vo ((ji a i).ct:Int)] /\ Blk wr (w.1.size+1) 35 #[vd vo L.p,vd vq L.block,vd vq L.queries,vd vq L.k,vd vq L.n,vd vq L.secret,vd vq L.rows,vd vq L.a,vd vq L.b,vd vq L.b,vd vq L.b] /\
    Blk wr (w.1.size+3) 153 #[.bool false,vd vo 0,vd vq 0,ve vB 0 0,ve vB 0 0,ve vB 0 0,vd vo 0,vd vo 0] /\ Blk wr gp 3 cur /\ Hid (cur.toList.take L.n=wg (Sg (Fe Cr L.n i))) /\ Blk wr gb 4 (Rn L.n fun x=>((Fe Cr L.n i).take i).contains x) /\
    Hd KX wr (fun u=>Md u [ve A' n' c'] (ji a i).O.qs) /\ vz w.1.size w wr) (fun y _=>L.queries-(intOf y).toNat)
   case atStart=>exact ⟨0,A2,m2,ai,cur,Qb _,rfl,ks,kl,kr,kp,by rw [Io.out];exact HCUR.out,kb,tj,da⟩
   case round =>
    clear ks kl kr kp kb tj da;obtain ⟨i,A3,zu,OJ,cu,hi,rfl,ks,kl,kr,kp,YI,kb,tj,da⟩:=hrel;have nk:=Hj.out.nk;have hkq:=Hj.out.k;have q2:=Hj.out.q2;have n2:=Hj.out.n2;by_cases ya:i<L.queries
    ·have g1:(0:Int)<=i:=by omega
     have g2:(i:Int)<L.queries:=by omega
     obtain ⟨sN,hsN⟩:=zEX (ji a i);obtain ⟨sM,hsM⟩:=zEX (ji a (i+1));obtain ⟨cv,iB⟩:=zEX (Ps sN);have tN:Vm sN (k+1+i) (0+i):=by rw [hsN];exact zA8 TA.out i
     have hcvq:cv<18446744073709551616:=by rw [iB];exact rm (iF tN.o.ans _ _)
     have HC:=zH (ER (K:=KX) tN zO zO A3 zu OJ wr (by rw [hsN];exact tj))
     rw [show Xp sN=sM by rw [hsN,hsM];rfl,<- iB] at HC
     unfold El at HC;have Wn:Cr i=cv:=by rw [HF.out,iB,hsN]
     rw [<- hsN] at ks;obtain ⟨m,hm⟩:=zEX (L.n-i);have hm0:0<m:=by omega
     obtain ⟨r,hr⟩:=zEX (cv%m);have rp:r<m:=by rw [hr];exact Sc _ hm0
     obtain ⟨j,hj⟩:=zEX (i+r);have TK:j<L.n:=by omega
     have e1:vq.wrap ((L.n:Int)-i)=(m:Int):=by rw [Bi];omega
     have e2:vo.wrap (m:Int)=m:=by rw [mh];omega
     have e3:(cv:Int).tmod (m:Int)=r:=by rw [Int.tmod_eq_emod_of_nonneg zO,hr];exact (Int.natCast_emod cv m).symm
     have e4:vq.wrap (r:Int)=r:=by rw [Bi];omega
     have e5:vq.wrap ((i:Int)+r)=(j:Int):=by rw [Bi];omega
     have e0:¬(m=0):=by omega
     have e0':((m:Int) == 0)=false:=by rw [Ke];omega
     have lO:=zH (show Fe Cr L.n (i+1)=Gu (Fe Cr L.n i) i j by rw [Fe,Wn,<- hm,<- hr,<- hj])
     have g3:(0:Int)<=j:=by omega
     have g4:(j:Int)<L.n:=by omega
     have g5:(i:Int)<L.n:=by omega
     have Nu:=zH (And.intro e1 (And.intro e2 (And.intro e3 (And.intro e4 (And.intro e5 (And.intro e0 (And.intro e0' (And.intro g3 (And.intro g4 g5)))))))));clear e1 e2 e3 e4 e5 e0 e0' g3 g4 g5;have tc:=zH ya;have HJN:=zH TK;have Fs:=zH (show i<L.n by omega)
     have rA:=zH hsM;clear iB hcvq Wn hm hr hj rp hm0 TK ya hsN hsM tN hi nk hkq q2 n2 tj;have cs:=ks.cell;have cl:=kl.cell;go_wp2_with fail
     refine HC.out.mono ?_;rintro e w4 ⟨A4,n4,c4,rfl,nB,rj⟩;have mB:=mS nB (fun b hb=>HNW.out b (zQ kb.lt))
     replace ks:=pa ks rj;replace kl:=pa kl rj;replace kr:=pa kr rj;replace kp:=pa kp rj;replace kb:=pa kb rj;replace da:=ta da rj;clear rj nB HC cs cl;have Tw:=ks.cell;have Yw:=ks.frozen;have Eh:=Jg [.bool sM.O.ideal,vd vo sM.O.st,vd vq sM.O.dr,ve A4 n4 c4,ve vB 0 0,ve vB 0 0,vd vo sM.st,vd vo sM.ct] ks rfl;have Ch:=(If (g:=w.1.size) zO [.bool sM.O.ideal,vd vo sM.O.st,vd vq sM.O.dr,ve A4 n4 c4,ve vB 0 0,ve vB 0 0,vd vo sM.st,vd vo sM.ct] 0 w4).trans kl;have Dh:=(If (g:=w.1.size) zO [.bool sM.O.ideal,vd vo sM.O.st,vd vq sM.O.dr,ve A4 n4 c4,ve vB 0 0,ve vB 0 0,vd vo sM.st,vd vo sM.ct] 0 w4).trans kr;have kpS:=(If (g:=w.1.size) zO [.bool sM.O.ideal,vd vo sM.O.st,vd vq sM.O.dr,ve A4 n4 c4,ve vB 0 0,ve vB 0 0,vd vo sM.st,vd vo sM.ct] 0 w4).trans kp;have kbS:=(If (g:=w.1.size) zO [.bool sM.O.ideal,vd vo sM.O.st,vd vq sM.O.dr,ve A4 n4 c4,ve vB 0 0,ve vB 0 0,vd vo sM.st,vd vo sM.ct] 0 w4).trans kb;have Wi:=aj (xs:=[.bool sM.O.ideal,vd vo sM.O.st,vd vq sM.O.dr,ve A4 n4 c4,ve vB 0 0,ve vB 0 0,vd vo sM.st,vd vo sM.ct]) (g:=w.1.size) da zO;have pF:=sb mB (Pj (g:=w.1.size) (Qp.out) [.bool sM.O.ideal,vd vo sM.O.st,vd vq sM.O.dr,ve A4 n4 c4,ve vB 0 0,ve vB 0 0,vd vo sM.st,vd vo sM.ct] w4);have Ah:w4.1.size <= (Pc w4 (w.1.size) [.bool sM.O.ideal,vd vo sM.O.st,vd vq sM.O.dr,ve A4 n4 c4,ve vB 0 0,ve vB 0 0,vd vo sM.st,vd vo sM.ct] 0).1.size:=by simp [Pc,vE]
     simp only [Pc,Re] at Eh Ch Dh kpS kbS Wi pF Ah
     try simp only [Nat.reduceAdd] at Eh Ch Dh kpS kbS Wi pF Ah
     have Kj:=zH Eh;have Ij:=zH Ch;have Jj:=zH Dh;have CU:=zH kpS;have BU:=zH kbS;have Gl:=zH Wi;have DJ:=zH pF;have Dn:=zH Ah;clear Eh Ch Dh kpS kbS Wi pF ks kl kr kp kb da mB Ah;go_upto_region 17 with fail
     generalize vE (vE (vE (vE (vE (vE (vE (vE (w4) _ _) _ _) _ _) _ _) _ _) _ _) _ _) _ _=w5 at Kj Ij Jj CU BU Gl DJ Dn  |-;clear Tw Yw;have ks:Blk w5 _ _ _:=Kj.out;have kl:Blk w5 _ _ _:=Ij.out;have kr:Blk w5 _ _ _:=Jj.out;have kp:Blk w5 _ _ _:=CU.out;have kb:Blk w5 _ _ _:=BU.out;have da:=Gl.out;have mB:=DJ.out;clear Kj Ij Jj CU BU Gl DJ;clear Dn;have cl:=kl.cell;obtain ⟨e1,e2,e3,e4,e5,e0,e0',g3,g4,g5⟩:=Nu.out;obtain ⟨Lp,jK⟩:=zEX (Fe Cr L.n i);rw [<- jK] at lO YI;have hLn:Lp.length=L.n:=by rw [jK];exact Qv Cr L.n i
     obtain ⟨xi,Ov⟩:=zEX (Lp.getD i 0);obtain ⟨xj,hxj⟩:=zEX (Lp.getD j 0);have KG:=zH (zCy (i:=i) (j:=j) YI.out);rw [<- Ov,<- hxj,<- lO.out] at KG;have lF:w5.cell? ⟨gp,i,vB⟩=vD (vd vq xi):=by rw [Ov];exact (kp.cell i).trans (GO YI.out Fs.out hLn)
     have Yt:w5.cell? ⟨gp,j,vB⟩=vD (vd vq xj):=by rw [hxj];exact (kp.cell j).trans (GO YI.out HJN.out hLn)
     have HCJ2:=zH (show ((cu.setIfInBounds i (vd vq xj))[j]?)=vD (vd vq xj) \/ True from .inr trivial)
     have hgpl:=kp.lt;have KS:=zH ks;have KL:=zH kl;have KR:=zH kr;have KP:=zH kp;have KB:=zH kb;have HB:=zH da;have HD:=zH mB;have AG:=zH jK;clear ks kr kp kb da mB Ov hxj jK hLn HCJ2;go_wp2_with fail
     refine zBC (Rc) [13,15] [13] [2,3,8,9,10] [0,1,2,3,4,5,6,7,8,9,10,11,12,13,14,15] zK zK ?_;refine zBE (Da) ?_;intro Wc Ga ja;have T1:=zH (KS.out.drew);have T2:=zH (KL.out.drew);have T3:=zH (KR.out.drew);have T4:=zH (KB.out.drew);have T5:=zH (KP.out.drew);rw [<- Ga.out] at T1 T2 T3 T4 T5;have T6:=zH (show vz w.1.size w Wc by rw [Ga.out];exact HB.out.drew)
     have T7:=zH (sb HD.out (show Yd _ _ Wc by rw [Ga.out];exact Ln))
     clear Ga KS KL KR KP KB HB HD;refine ZT ?_;refine WT (Da) rfl rfl rfl ?_;have hfw:=T5.out.frozen;have YV:Wc.cell? ⟨gp,i,vB⟩=_:=(T5.out.cell i).trans (GO YI.out Fs.out (by rw [AG.out];exact Qv Cr L.n i))
     clear lF Yt ja;go_simp;refine ⟨fun h=>Bool.noConfusion h,?_⟩
     have k5:=T5.out.set_ i (vd vq xj);have s5:=T1.out.far (p:=⟨gp,i,vB⟩) (fun e=>by have:w.1.size=gp:=e;omega) (vd vq xj)
     have l5:=T2.out.far (p:=⟨gp,i,vB⟩) (fun e=>by have:w.1.size+1=gp:=e;omega) (vd vq xj)
     have r5:=T3.out.far (p:=⟨gp,i,vB⟩) (fun e=>by have:w.1.size+3=gp:=e;omega) (vd vq xj)
     have b5:=T4.out.far (p:=⟨gp,i,vB⟩) (fun e=>by have:gb=gp:=e;omega) (vd vq xj)
     have o5:=T6.out.setCell (p:=⟨gp,i,vB⟩) (show w.1.size <= gp by omega) (vd vq xj)
     have d5:=sb T7.out (FE (i:=i) (c:=vd vq xj) CG.out)
     refine zPU ?_
     generalize Wc.setCell _ _=w6' at k5 s5 l5 r5 b5 o5 d5 |-;clear hfw YV T1 T2 T3 T4 T5 T6 T7;have ja:=Da.refl w6';have hf6:=k5.frozen;have hc6:w6'.cell? ⟨gp,j,vB⟩=_:=(k5.cell j).trans (GO (l:=Lp.set i xj) (by rw [cV YI.out,TW]) HJN.out (by rw [List.length_set,AG.out];exact Qv Cr L.n i))
     refine ZT ?_;refine WT (Da) rfl rfl rfl ?_;go_simp;refine ⟨fun h=>Bool.noConfusion h,?_⟩
     have k6:=k5.set_ j (vd vq xi);have s6:=s5.far (p:=⟨gp,j,vB⟩) (fun e=>by have:w.1.size=gp:=e;omega) (vd vq xi)
     have l6:=l5.far (p:=⟨gp,j,vB⟩) (fun e=>by have:w.1.size+1=gp:=e;omega) (vd vq xi)
     have r6:=r5.far (p:=⟨gp,j,vB⟩) (fun e=>by have:w.1.size+3=gp:=e;omega) (vd vq xi)
     have b6:=b5.far (p:=⟨gp,j,vB⟩) (fun e=>by have:gb=gp:=e;omega) (vd vq xi)
     have o6:=o5.setCell (p:=⟨gp,j,vB⟩) (show w.1.size <= gp by omega) (vd vq xi)
     have d6:=sb d5 (FE (i:=j) (c:=vd vq xi) CG.out)
     refine zPU ?_
     generalize w6'.setCell _ _=w7 at k6 s6 l6 r6 b6 o6 d6 |-;refine zBD ?_;clear k5 s5 l5 r5 b5 o5 d5 hf6 hc6 ja;obtain ⟨cu2,hcu2⟩:=zEX ((cu.setIfInBounds i (vd vq xj)).setIfInBounds j (vd vq xi));rw [<- hcu2] at KG k6;obtain ⟨y,hy⟩:=zEX ((Fe Cr L.n (i+1)).getD i 0);have hyn:y<L.n:=by rw [hy];exact CI (jT Cr L.n (i+1) (by have:=Hj.out.nk;have:=Hj.out.k;have:=tc.out;omega)) (by rw [Qv];exact Fs.out)
     have hcy:w7.cell? ⟨gp,i,vB⟩=vD (vd vq y):=by rw [hy];exact (k6.cell i).trans (GO KG.out Fs.out (Qv Cr L.n (i+1)))
     have hcb:w7.cell? ⟨gb,y,vB⟩=_:=(b6.cell y).trans (J1 _ hyn);have hfb:=b6.frozen;have g6:(0:Int)<=y:=by omega
     have g7:(y:Int)<L.n:=by omega
     have b7:=b6.set_ y (.bool true);rw [zDf] at b7;have HBQ:=zH (show (Rn L.n fun x=>if x=y then true else (Lp.take i).contains x)=Rn L.n fun x=>((Fe Cr L.n (i+1)).take (i+1)).contains x from Y1 fun x _=>by
      rw [zCk Cr L.n i Fs.out,<- hy,<- AG.out];by_cases e:x=y <;> simp [e])
     rw [AG.out] at HBQ;rw [HBQ.out] at b7;have s7:=s6.far (p:=⟨gb,y,vB⟩) (fun e=>by have:w.1.size=gb:=e;omega) (.bool true)
     have l7:=l6.far (p:=⟨gb,y,vB⟩) (fun e=>by have:w.1.size+1=gb:=e;omega) (.bool true)
     have r7:=r6.far (p:=⟨gb,y,vB⟩) (fun e=>by have:w.1.size+3=gb:=e;omega) (.bool true)
     have p7:=k6.far (p:=⟨gb,y,vB⟩) (fun e=>by have:gp=gb:=e;omega) (.bool true)
     have o7:=o6.setCell (p:=⟨gb,y,vB⟩) (show w.1.size <= gb by omega) (.bool true)
     have d7:=sb d6 (FE (i:=y) (c:=.bool true) HNB.out);have DN:=zH (And.intro s7 (And.intro l7 (And.intro r7 (And.intro p7 (And.intro b7 (And.intro d7 o7))))));clear s6 l6 r6 k6 b6 d6 o6 s7 l7 r7 p7 b7 d7 o7 hy hyn hcu2;go_wp2
     go_roundw
     case rel =>
      obtain ⟨s7,l7,r7,p7,b7,d7,o7⟩:=DN.out;refine ⟨i+1,A4,n4,c4,cu2,tc.out,by go_num,?_,l7,r7,p7,KG.out,b7,?_,o7⟩
      ·rw [<- rA.out];exact s7
      ·rw [<- rA.out];exact d7
     case measure=>have:=tc.out;simp [intOf];omega
    ·obtain rfl:i=L.queries:=by omega
     obtain ⟨ch,Fv⟩:∃ ch:Nat -> Bool,ch=fun x=>((Fe Cr L.n L.queries).take L.queries).contains x:=⟨_,rfl⟩
     rw [<- Fv] at kb;have vU:=zH (show Wx s all L.n L.queries=(List.range L.n).filter ch by rw [Fv];exact HTP.out)
     obtain ⟨sF,hsF⟩:=zEX (ji a L.queries);rw [<- hsF] at ks tj;have HSF:=zH hsF;have cl:=kl.cell;have KS:=zH ks;have KL:=zH kl;have KR:=zH kr;have KB:=zH kb;have HB:=zH da;have HD:=zH tj;have WS:=zH (show w.1.size+4 <= wr.1.size by have:=kr.lt;omega)
     clear ks kl kr kp kb da tj Fv hsF YI nk hkq q2 ya hi HTP;go_wp2_with fail
     go_loopw [15,16] (fun v y wf=>∃ j m:Nat,j <= L.n /\ y=vd vq j /\ Hid (m=((List.range j).filter ch).length) /\ m <= j /\ wf.ownsRow wr.1.size 3 1 v m (wg (Sg ((List.range j).filter ch))) /\ vz wr.1.size wr wf) (fun _ y _=>L.n-(intOf y).toNat)
     case atStart=>exact ⟨0,0,Qb _,rfl,rfl,zR,⟨rfl, .inl ⟨rfl,rfl⟩⟩,Kb _ _⟩
     case round =>
      obtain ⟨j,m,hj,rfl,HM,hmj,oa,tb⟩:=hrel;have kl:=KL.out.below tb KL.out.lt;have kb:=KB.out.below tb KB.out.lt;have cl:=kl.cell;by_cases ya:j<L.n
      ·have g1:(0:Int)<=j:=by omega
       have g2:(j:Int)<L.n:=by omega
       have hcb:wr.cell? ⟨gb,j,vB⟩=_:=(kb.cell j).trans (J1 _ ya);have Vg:=zH (zE9 ch j);have Fo:=zH (zEB ch j);have tc:=zH ya;cases Yt:ch j
       ·rw [Yt] at hcb Vg Fo
        rw [Gb zD,List.append_nil] at Vg;rw [Gb zD,Oo] at Fo;clear Yt ya kl kb;go_wp2
        go_roundw
        case rel=>exact ⟨j+1,m,tc.out,by go_num,by rw [Fo.out];exact HM.out,zO,by rw [Vg.out];exact oa,tb⟩
        case measure=>have:=tc.out;simp [intOf];omega
       ·rw [Yt] at hcb Vg Fo
        rw [Lb rfl] at Vg Fo;clear Yt ya kl kb;go_wp2_with (at_builtin;refine Wd rfl _ _ rfl NO rfl (oa.alloc _) rfl (gg _ _ _) (uX [(j:Int)]) zO (by simp;have:=tb.size;omega) ?_)
        intro v' wn Ua Ma Cb;have ma:=zA wr (.cells #[vd vq j] 3);have hB:=ie (oa.alloc _) Ma (by simp;have:=tb.size;omega)
        replace tb:=(Nk tb ma tb.size).trans hB;have HO:=zH Ua;clear oa Ua Ma Cb ma hB hcb cl;go_wp2
        go_roundw
        case rel=>exact ⟨j+1,m+1,tc.out,by go_num,by rw [Fo.out,<- HM.out];rfl,zO,by rw [Vg.out];exact HO.out,tb⟩
        case measure=>have:=tc.out;simp [intOf];omega
      ·obtain rfl:j=L.n:=by omega
       obtain rfl:m=L.queries:=by rw [HM.out,<- vU.out];exact Tu.out
       rw [<- vU.out] at oa;have kx:=KS.out.below tb KS.out.lt;have kr:=KR.out.below tb KR.out.lt;have da:=ta HB.out tb;have OW:=zH oa;have HDF:=zH (sb HD.out (yc tb));have WS2:=zH (show w.1.size+4 <= wr.1.size by have:=tb.size;have:=WS.out;omega)
       obtain ⟨pv,jo⟩:=zEX (Wx s all L.n L.queries);rw [<- jo] at OW;have jA:=zH jo;clear kl kb oa tb ya hj hmj jo vU Tu HM;have sr:=kx.cell;have Wr:=kx.lt;have Xr:w.1.size≠w.1.size+3:=by omega
       have ZC:=zH WS.out;go_wp2_with fail
       clear cl;refine Pd (Ji (w.1.size+3)) [3] [0,1,2,3] zK zK ?_;refine oe (de (w.1.size+3)) ?_;intro Wc Ga ja;have Yg:=zH (show Blk Wc _ _ _ by rw [Ga.out];exact kr.drew)
       have Jf:=zH (show vz w.1.size w Wc by rw [Ga.out];exact da.drew)
       replace HDF:=zH (sb HDF.out (show Yd _ _ Wc by rw [Ga.out];exact Ln))
       replace OW:=zH (show Wc.ownsRow _ _ _ _ _ _ by rw [Ga.out];exact Ye OW.out fun _ _=>rfl)
       have Zq:=Yg.out.cell;have Er:=Yg.out.frozen;clear Ga;refine Hk ?_;refine ke (de (w.1.size+3)) rfl rfl rfl ?_;go_simp;refine ⟨Ez [.bool sF.O.ideal,vd vo sF.O.st,vd vq sF.O.dr,ve A3 zu OJ,ve vB 0 0,ve vB 0 0,vd vo sF.st,vd vo sF.ct] 0 _,?_⟩
       refine zPU ?_
       refine Vc ?_;have kf:=Jg [.bool sF.O.ideal,vd vo sF.O.st,vd vq sF.O.dr,ve A3 zu OJ,ve vB 0 0,ve vB 0 0,vd vo sF.st,vd vo sF.ct] Yg.out rfl;have Oc:=aj (xs:=[.bool sF.O.ideal,vd vo sF.O.st,vd vq sF.O.dr,ve A3 zu OJ,ve vB 0 0,ve vB 0 0,vd vo sF.st,vd vo sF.ct]) (g:=w.1.size+3) Jf.out zO;have Ir:=sb HDF.out (Pj (g:=w.1.size+3) HNR.out [.bool sF.O.ideal,vd vo sF.O.st,vd vq sF.O.dr,ve A3 zu OJ,ve vB 0 0,ve vB 0 0,vd vo sF.st,vd vo sF.ct] Wc);have TL:=Hg (Ye OW.out (u:=Pc Wc (w.1.size+3) [.bool sF.O.ideal,vd vo sF.O.st,vd vq sF.O.dr,ve A3 zu OJ,ve vB 0 0,ve vB 0 0,vd vo sF.st,vd vo sF.ct] 0) fun b hb=>If (fun e=>by have h1:=(OW.out.lt b hb).1;have h2:=ZC.out;omega) _ 0 Wc) (jb (Nat.le_add_right _ 4) ZC.out)
       simp only [Pc,Re,Nat.reduceAdd] at kf Oc Ir TL;generalize vE (vE (vE (vE (vE (vE (vE (vE (Wc) _ _) _ _) _ _) _ _) _ _) _ _) _ _) _ _=wf at kf Oc Ir TL |-;have cf:=kf.cell;clear sr Wr Xr Zq Er ja;go_wp2;have hsf:=HSF.out;have jo:=jA.out;subst hsf jo;exact Uc (by simp [results,results80,go_sem,cf]) rfl ⟨A3,zu,OJ,_,rfl,TL,Vn Ir HKO.out,Oc⟩
def Rx (real:Bool) (xe:Nat):Jb:=if real then ⟨false,0,0,[]⟩ else ⟨true,xe,0,[]⟩
abbrev iH (p:Nat) (pub vars:Int) (A B:Option vx) (n c m d:Nat) (bl bw qs pd:Int) (real:Bool) (xe:Nat):Array vw :=
 #[vd vo p,vd vq pub,vd vq vars,ve A n c,vd vq bl,vd vq bw,vd vq qs,ve B m d,vd vo pd, .bool real,vd vo xe]
theorem zB2 (p:Nat) (pub vars:Int) (A B:Option vx) (n c m d:Nat) (bl bw qs pd:Int) (real:Bool) (xe:Nat) (w:vu) (hs:xe<18446744073709551616) :
  vA prog 33 #[vf (iH p pub vars A B n c m d bl bw qs pd real xe)] w fun e w'=>∃ g F,e=vn (.pointer (vD ⟨g,0,vB⟩)) /\ OrcAt w' g (Rx real xe) F /\ (∀ b,F b -> w.1.size <= b) /\ vz w.1.size w w':=by
 have kb:=Blk.new w 32 (iH p pub vars A B n c m d bl bw qs pd real xe);have hb:=zA w (.cells (iH p pub vars A B n c m d bl bw qs pd real xe) 32);have HI:=zH (fun w=>zDZ xe w hs)
 unfold iH at *;clear hs;cases real
 ·go_enter func33,ntmps33
  go_wp2_with fail
  generalize w.alloc _=w1 at kb hb |-;refine (HI.out w1).mono ?_;rintro e w2 ⟨g,F,rfl,h2,hF,Fa⟩;have Gd:=hb.size;replace hb:=ta hb Fa;have HH:=zH (And.intro h2 (And.intro hF hb));clear h2 hF hb Fa kb;go_wp2;go_ret
  exact ⟨g,F,rfl,HH.out.1,fun b hb=>jb Gd (HH.out.2.1 b hb),HH.out.2.2⟩
 ·go_enter func33,ntmps33
  go_wp2_with fail
  generalize w.alloc _=w1 at kb hb |-;refine (zHn w1).mono ?_;rintro e w2 ⟨g,F,rfl,h2,hF,Fa⟩;have Gd:=hb.size;replace hb:=ta hb Fa;have HH:=zH (And.intro h2 (And.intro hF hb));clear h2 hF hb Fa kb;go_wp2;go_ret
  exact ⟨g,F,rfl,HH.out.1,fun b hb=>jb Gd (HH.out.2.1 b hb),HH.out.2.2⟩
theorem zFu (p:Nat) (pub vars:Int) (A B:Option vx) (n c m d:Nat) (bl bw qs pd:Int) (real:Bool) (xe:Nat) (w:vu) :
  vA prog 30 #[vf (iH p pub vars A B n c m d bl bw qs pd real xe)] w fun e w'=>e=vn (vf (Bf (Rx real xe) (ve vB 0 0))) /\ vz w.1.size w w':=by
 obtain ⟨kb,kr,hb,Db⟩:=Xf w 32 65 (iH p pub vars A B n c m d bl bw qs pd real xe) #[.bool false,vd vo 0,vd vq 0,ve vB 0 0,ve vB 0 0,ve vB 0 0];clear Db;unfold iH at *;cases real
 ·go_enter func30,ntmps30
  go_upto_region 1 with fail
  generalize (w.alloc _).alloc _=w1 at kb kr hb |-;have cb:=kb.cell;have cr:=kr.cell;have fr:=kr.frozen;have kf:=Jg [.bool true,vd vo xe,vd vq 0,ve vB 0 0,ve vB 0 0,ve vB 0 0] kr rfl;have Oc:=aj (xs:=[.bool true,vd vo xe,vd vq 0,ve vB 0 0,ve vB 0 0,ve vB 0 0]) (g:=w.1.size+1) hb (Nat.le_succ _);simp only [Pc,Re,Nat.reduceAdd] at kf Oc;have HF:=zH (And.intro kf Oc);clear kf Oc;go_wp2;generalize vE (vE (vE (vE (vE (vE w1 _ _) _ _) _ _) _ _) _ _) _ _=wf at HF |-;have cf:=HF.out.1.cell;exact Uc (by simp [results,results30,go_sem,cf];rfl) rfl ⟨rfl,HF.out.2⟩
 ·go_enter func30,ntmps30
  go_upto_region 1 with fail
  generalize (w.alloc _).alloc _=w1 at kb kr hb |-;have cb:=kb.cell;have cr:=kr.cell;have fr:=kr.frozen;have kf:=Jg [.bool false,vd vo 0,vd vq 0,ve vB 0 0,ve vB 0 0,ve vB 0 0] kr rfl;have Oc:=aj (xs:=[.bool false,vd vo 0,vd vq 0,ve vB 0 0,ve vB 0 0,ve vB 0 0]) (g:=w.1.size+1) hb (Nat.le_succ _);simp only [Pc,Re,Nat.reduceAdd] at kf Oc;have HF:=zH (And.intro kf Oc);clear kf Oc;go_wp2;generalize vE (vE (vE (vE (vE (vE w1 _ _) _ _) _ _) _ _) _ _) _ _=wf at HF |-;have cf:=HF.out.1.cell;exact Uc (by simp [results,results30,go_sem,cf];rfl) rfl ⟨rfl,HF.out.2⟩
def Zi (L:Tb) (m r:List (List Nat)):List (List Nat):=(List.range m.length).map (zs L m r)
def XG (L:Tb) (m r:List (List Nat)) (co:List Nat) (al:Nat):List Nat:=Gh (Mg L.p co (Nt L.p (Zi L m r) al m.length)) L.k
def YG (L:Tb) (cs m r:List (List Nat)) (li:List Nat):List Nat:=Gh (Mg L.p (Qh L li) (yu L.p (Zi L m r) (Hp L.p cs) m.length)) (L.k+L.block-1)
def ZG (L:Tb) (m r:List (List Nat)) (qu:List Nat) (be:Nat):List Nat:=Gh (Mg L.p (Ck L qu) (ss L.p L.a L.b (Zi L m r) be L.b)) (2*L.k-1)
structure yE (L:Tb) (m r:List (List Nat)):Prop where
 ml:m.length=L.a+L.b+L.b+L.b
 rl:r.length=m.length
 mr:∀ x∈m,x.length=L.block
 rr:∀ x∈r,x.length=L.queries
theorem aP {l:List (List Nat)} {P:List Nat -> Prop} (h:∀ x∈l,P x) {i:Nat} (hi:i<l.length):P (l.getD i []):=by
 rw [WE hi];exact h _ (Qe hi)
theorem dM {L:Tb} (hL:Ad L) {m r:List (List Nat)} (h:yE L m r) {i:Nat} (hi:i<m.length):(Zi L m r).getD i []=Hy L m r i:=by
 have e:(Zi L m r).getD i []=zs L m r i:=by
  rw [Zi,Hc,List.getElem?_map,List.getElem?_range hi]
  rfl
 have h1:=aP h.mr hi;have h2:=aP h.rr (show i<r.length by rw [h.rl];exact hi)
 rw [e,zs,zAw hL h1 h2,OS,h2,<- hL.k]
 rfl
theorem TX (L:Tb) (m r:List (List Nat)):(Zi L m r).length=m.length:=by simp [Zi]
theorem CT {L:Tb} (hL:Ad L) {m r:List (List Nat)} (h:yE L m r):∀ x∈Zi L m r,x.length=L.k:=fun x hx=>by
 obtain ⟨i,hi,rfl⟩:=Vq hx;rw [TX] at hi;have e:=dM hL h hi;rw [WE (by rw [TX];exact hi)] at e
 rw [e];simp [Hy]
theorem zAQ (p a b c:Nat):((a+b)%p+c%p)%p=(a+(b+c%p)%p)%p:=by
 rw [Nat.mod_add_mod,Nat.add_mod_mod a,Nat.add_assoc]
theorem pR {p s t k:Nat} {F G:Nat -> Nat} (h:k<t):Vp p s F G t k=(F k+s*G k%p)%p:=by
 unfold Vp Ug;rw [Lb h]
theorem zBM {p s t k:Nat} {F G:Nat -> Nat} (h:¬k<t):Vp p s F G t k=F k:=by
 unfold Vp Ug;rw [Gb h]
theorem zCo {L:Tb} (hL:Ad L) {m r:List (List Nat)} (h:yE L m r) {co:List Nat} (hc:co.length=L.k) (ya:∀ y∈co,y<L.p) (al:Nat) :
  (List.range L.k).map (DD L.p L.k al (fun k=>co.getD k 0) (JE L m r) m.length)=XG L m r co al:=by
 have hp:=Cc hL.p;have hl:(XG L m r co al).length=L.k:=by
  rw [XG,lQ];have h1:=Pw L.p co (Nt L.p (Zi L m r) al m.length);have h2:=FR (p:=L.p) (al:=al) (fun x hx=>Nat.le_of_eq (CT hL h x hx)) m.length
  omega
 refine BI (by rw [hl];simp) fun k hk=>?_
 simp at hk
 rw [wt,Lb hk,XG,jQ,Ow];have key:∀ i,i <= m.length -> DD L.p L.k al (fun k=>co.getD k 0) (JE L m r) i k=(co.getD k 0+(Nt L.p (Zi L m r) al i).getD k 0)%L.p:=fun i=>by
  induction i with
  | zero =>
   intro _;rw [DD,Nt];exact (Lk (by simpa using aK zO ya k)).symm
  | succ i ih =>
   intro hi;rw [DD,pR hk,ih zO,Nt,Ow,eM,dM hL h zO,Hy,wt,Lb hk,xg (Cl L.p al (i+1)),zAQ]
 exact key _ zR
theorem wtF_eq {L:Tb} (hL:Ad L) {cs:List (List Nat)} (Ws:∀ x∈cs,x.length=L.block) {i:Nat} (hi:i<cs.length):(Hp L.p cs).getD i []=(List.range L.block).map (uu L.p L.block L.block.log2 (cs.getD i [])):=by
 obtain ⟨hlen,j,hj⟩:=EL hL;have jN:L.block.log2=j:=by rw [hj];exact Nat.log2_two_pow
 have h1:=aP Ws hi;have e:(Hp L.p cs).getD i []=tM L.p cs i:=by
  rw [Hp,Hc,List.getElem?_map,List.getElem?_range hi]
  rfl
 rw [e,tM,h1];refine Nw fun k hk=>?_
 have hk':=Mj.1 hk;rw [L5 (j:=j) _ hL.p (by rw [h1];exact hlen) (by rw [h1];exact hj) zO,h1,jN]
theorem oX {p:Nat} (hp:0<p) (a b:List Nat) (k:Nat):(Dg p a b).getD k 0<p:=aK hp (fun _ h=>N7 hp h) k
theorem zBZ {L:Tb} (hL:Ad L) {cs m r:List (List Nat)} (h:yE L m r) (Ws:∀ x∈cs,x.length=L.block) (Vs:cs.length=m.length) {i k:Nat} (hi:i<m.length) (hk:k<L.k+L.block-1) :
  IE L cs m r i k=(Dg L.p ((Hp L.p cs).getD i []) ((Zi L m r).getD i [])).getD k 0:=by
 have hp:=Cc hL.p;have Oa:=hL.b1;have Kv:=hL.k;have gI:=hL.nk;have qi:=hL.q1;have h2:2 <= L.k+L.block-1:=by omega
 obtain ⟨hM,-⟩:=QS hL h2 zO;obtain ⟨e,hle,-⟩:=XO h2;rw [wtF_eq hL Ws zO,dM hL h hi];unfold IE;refine Cg.eq (p:=L.p) (L7 hL.p hM e _ _ zT (by simp [Hy];omega) k zO) (M7 zO _ _ _) (oX zO _ _ _)
theorem zEG {L:Tb} (hL:Ad L) {cs m r:List (List Nat)} (h:yE L m r) (Ws:∀ x∈cs,x.length=L.block) (Vs:cs.length=m.length) {li:List Nat} (hl:li.length=L.k+L.block-2) (ya:∀ y∈li,y<L.p) :
  (List.range (L.k+L.block-1)).map (ED L.p (L.k+L.block-1) (fun k=>(Qh L li).getD k 0) (IE L cs m r) m.length)=YG L cs m r li:=by
 have hp:=Cc hL.p;have Oa:=hL.b1;have Kv:=hL.k;have qi:=hL.q1;have mf:(Qh L li).length=L.k+L.block-1:=by rw [Qh,Yh];omega
 have hmlt:∀ k,(Qh L li).getD k 0<L.p:=fun k=>by
  cases k with
  | zero=>exact rN zO _ _
  | succ k=>exact aK zO ya k
 have uB:∀ x∈Hp L.p cs,x.length <= L.block:=fun x hx=>by
  obtain ⟨i,hi,rfl⟩:=ee.1 hx;rw [tM,Tm,Sp,aP Ws (Mj.1 hi)];exact zR
 have Me:(YG L cs m r li).length=L.k+L.block-1:=by
  rw [YG,lQ];have h1:=Pw L.p (Qh L li) (yu L.p (Zi L m r) (Hp L.p cs) m.length);have h2:=LS (p:=L.p) (fun x hx=>Nat.le_of_eq (CT hL h x hx)) uB m.length
  omega
 refine BI (by rw [Me];simp) fun k hk=>?_
 simp at hk
 rw [wt,Lb zO,YG,jQ,Ow];have key:∀ i,i <= m.length -> ED L.p (L.k+L.block-1) (fun k=>(Qh L li).getD k 0) (IE L cs m r) i k=((Qh L li).getD k 0+(yu L.p (Zi L m r) (Hp L.p cs) i).getD k 0)%L.p:=fun i=>by
  induction i with
  | zero =>
   intro _;rw [ED,yu];exact (Lk (by simpa using hmlt k)).symm
  | succ i ih =>
   intro hi;rw [ED,pR zO,ih zO,yu,Ow,zBZ hL h Ws Vs zO zO,Nat.one_mul,zAQ];rw [Lk (oX (p:=L.p) zO _ _ _)]
 exact key _ zR
theorem zB0 {L:Tb} (hL:Ad L) {m r:List (List Nat)} (h:yE L m r) {j k:Nat} (hj:j<L.b) (hk:k<2*L.k-1) :
  NA L m r j k=(Dg L.p ((Zi L m r).getD (L.a+j) []) ((Zi L m r).getD (L.a+L.b+j) [])).getD k 0:=by
 have hp:=Cc hL.p;have Oa:=hL.b1;have Kv:=hL.k;have gI:=hL.nk;have qi:=hL.q1;have mf:=h.ml;have h2:2 <= 2*L.k-1:=by omega
 obtain ⟨hM,-⟩:=QS hL h2 zO;obtain ⟨e,hle,-⟩:=XO h2;rw [dM hL h zO,dM hL h zO];unfold NA;refine Cg.eq (p:=L.p) (L7 hL.p hM e _ _ (by simp [Hy];omega) (by simp [Hy];omega) k zO) (M7 zO _ _ _) (oX zO _ _ _)
theorem DR {p:Nat} (a b:Nat):Cg p ((a*b%p:Nat):Int) ((a:Int)*b):=(Cg.mod _).trans (Cg.of_eq (Vh _ _))
theorem BO {p:Nat} (a b:Nat):Cg p (((a+b)%p:Nat):Int) ((a:Int)+b):=(Cg.mod _).trans (Cg.of_eq (Hw _ _))
theorem gap_cg {p:Nat} (hp:1<p) (a b:List Nat) (k:Nat):Cg p ((ND p a b).getD k 0:Int) ((a.getD k 0:Int)-(b.getD k 0:Int)):=by
 rw [ND,Ow,eM];refine (BO _ _).trans ?_;have h1:=(DR (p:=p) (b.getD k 0) (qg p 1)).trans (Cg.rfl'.mul (dQ p 1 zO));refine (Cg.rfl'.add h1).trans (Cg.of_eq ?_);have:(((1:Nat):Int))=1:=rfl;rw [this,Int.mul_neg,Int.mul_one]
 rfl
theorem zGx {L:Tb} (hL:Ad L) {m r:List (List Nat)} (h:yE L m r) {qu:List Nat} (hq:qu.length=L.block+2*L.queries-1) (be:Nat) :
  (List.range (2*L.k-1)).map (MB L.p L.k (2*L.k-1) be (Ek L.p L.block qu qu.length) (NA L m r) (aH L m r) L.b)=ZG L m r qu be:=by
 have hp:=Cc hL.p;have Oa:=hL.b1;have Kv:=hL.k;have qi:=hL.q1;have mf:=h.ml;have hql:(Ck L qu).length=2*L.k-1:=by rw [sT hL hq,JN,Tm,Sp];omega
 have Me:(ZG L m r qu be).length=2*L.k-1:=by
  rw [ZG,lQ];have h1:=Pw L.p (Ck L qu) (ss L.p L.a L.b (Zi L m r) be L.b);have h2:=qT (p:=L.p) (a:=L.a) (b:=L.b) (be:=be) (fun x hx=>Nat.le_of_eq (CT hL h x hx)) L.b
  omega
 refine BI (by rw [Me];simp) fun k hk=>?_
 simp at hk
 rw [wt,Lb hk,ZG,jQ,Ow];have key:∀ j,j <= L.b -> Cg L.p (MB L.p L.k (2*L.k-1) be (Ek L.p L.block qu qu.length) (NA L m r) (aH L m r) j k:Int) (((Ck L qu).getD k 0:Int)+((ss L.p L.a L.b (Zi L m r) be j).getD k 0:Int)):=fun j=>by
  induction j with
  | zero =>
   intro _;rw [MB,ss,sT hL hq,JN,wt,Lb zO];exact Cg.of_eq zS
  | succ j ih =>
   intro hj;have ih:=ih zO;have hz:aH L m r j k=if k<L.k then ((Zi L m r).getD (L.a+L.b+L.b+j) []).getD k 0 else aH L m r j k:=by
    split
    ·rename_i hkL
     rw [dM hL h zO,Hy,wt,Lb hkL]
     rfl
    ·rfl
   obtain ⟨F,hF⟩:=zEX (MB L.p L.k (2*L.k-1) be (Ek L.p L.block qu qu.length) (NA L m r) (aH L m r) j);obtain ⟨P,hP⟩:=zEX (Cl L.p be (j+1));rw [<- hF] at ih;rw [MB,ss,Ow,eM,<- hF,<- hP,aN];have hG:=gap_cg (p:=L.p) zO (Dg L.p ((Zi L m r).getD (L.a+j) []) ((Zi L m r).getD (L.a+L.b+j) [])) ((Zi L m r).getD (L.a+L.b+L.b+j) []) k;rw [<- zB0 hL h zO hk] at hG;generalize ((ND L.p (Dg L.p ((Zi L m r).getD (L.a+j) []) ((Zi L m r).getD (L.a+L.b+j) [])) ((Zi L m r).getD (L.a+L.b+L.b+j) [])).getD k 0)=G at hG |-;have hR:Cg L.p ((((Ck L qu).getD k 0:Nat):Int)+((((ss L.p L.a L.b (Zi L m r) be j).getD k 0+G*P%L.p)%L.p:Nat):Int)) ((((Ck L qu).getD k 0:Nat):Int)+(((ss L.p L.a L.b (Zi L m r) be j).getD k 0:Nat):Int)+(G:Int)*P):=by
    refine (Cg.rfl'.add ((BO _ _).trans (Cg.rfl'.add (DR _ _)))).trans (Cg.of_eq ?_);omega
   refine Cg.trans ?_ hR.symm;have h1:Cg L.p ((Vp L.p P F (NA L m r j) (2*L.k-1) k:Nat):Int) ((F k:Int)+(P:Int)*(NA L m r j k:Int)):=by
    rw [pR hk];exact (BO _ _).trans (Cg.rfl'.add (DR _ _))
   by_cases hkL:k<L.k
   ·rw [Lb hkL] at hz
    rw [pR hkL];refine (BO _ _).trans ?_;refine (h1.add ((DR _ _).trans ((dQ L.p P zO).mul Cg.rfl'))).trans ?_;rw [hz];refine ((ih.add Cg.rfl').add Cg.rfl').trans ?_;refine Cg.trans (Cg.of_eq ?_) (Cg.rfl'.add (hG.mul Cg.rfl').symm)
    grind
   ·rw [zBM hkL]
    refine h1.trans ?_;have Hi:((Zi L m r).getD (L.a+L.b+L.b+j) []).getD k 0=0:=rH (by rw [dM hL h zO];simp [Hy];omega)
    rw [Hi] at hG;refine (ih.add Cg.rfl').trans ?_;refine Cg.trans (Cg.of_eq ?_) (Cg.rfl'.add (hG.mul Cg.rfl').symm)
    grind
 refine Cg.eq (p:=L.p) ((key _ zR).trans ?_) (mT zO (fun k=>OI zO _ _ _) _ _) (Sc _ zO)
 exact (BO _ _).symm
def subN (p a b:Nat):Nat:=(a+qg p b)%p
def cm2 (p a b be:Nat) (f:Nat -> Nat) (e:Nat):Nat -> Nat
 | 0=>e
 | j+1=>subN p (cm2 p a b be f e j) (Cl p be (j+1)*subN p (f (a+j)*f (a+b+j)%p) (f (a+b+b+j))%p)
theorem zBQ {n k:Nat} {f:Nat -> Bool} (hk:k<n) (h:f k=false):(List.range n).all f=false:=by
 rw [Bool.eq_false_iff];intro hh;rw [oh] at hh;rw [hh k (Mj.2 hk)] at h;cases h
theorem zBR {n:Nat} {f:Nat -> Bool} (h:∀ k,k<n -> f k=true):(List.range n).all f=true:=by
 rw [oh];exact fun k hk=>h k (Mj.1 hk)
end Go.Proofs.YteoghgbnielkpaaGreat
