/- A part of the proof. No condition. -/
import Derived.Test.YtodmnanljoaocaaGreatPU12
import Derived.Test.YtodmnanljoaocaaGreatPU11
import Derived.Test.YtodmnanljoaocaaGreatPU13

set_option maxRecDepth 100000
set_option maxHeartbeats 8000000
set_option linter.unusedVariables false
set_option linter.unusedSimpArgs false
namespace Go.Proofs.YtodmnanljoaocaaGreat
open Go.RowKit Go.Maps
open Tryz
open Go renaming World->vv, Value->vw, Addr->vx, TypeId->vy, Calls->vA
open Go.Value renaming int->vd, slice->ve, agg->vf
open Go.IntKind renaming u64->vq, i64->vt
open Go.Ending renaming returned->vn
open Go.RowKit renaming Below->vz
open Go.World renaming setCell->vE
open Go.Act renaming put->vF
open Option renaming none->vB, some->vD
def TT (L:Xa) (m r:List (List Nat)) (i:Nat):Nat -> Nat:=BR L (m.getD i []) (r.getD i [])
def FN (L:Xa) (m r:List (List Nat)) (i:Nat):List Nat:=(List.range L.k).map (TT L m r i)
def ansD (L:Xa) (cs m r:List (List Nat)) (i:Nat):Nat -> Nat :=
 mulF L.p (VL (L.k+L.block-1)) ((L.k+L.block-1-1).log2+1) ((List.range L.block).map (Ow L.p L.block L.block.log2 (cs.getD i []))) (FN L m r i)
def ansXY (L:Xa) (m r:List (List Nat)) (j:Nat):Nat -> Nat :=
 mulF L.p (VL (2*L.k-1)) ((2*L.k-1-1).log2+1) (FN L m r (L.a+j)) (FN L m r (L.a+L.b+j))
def ansZ (L:Xa) (m r:List (List Nat)) (j:Nat):Nat -> Nat:=TT L m r (L.a+L.b+L.b+j)
structure PvIn where
 L:Xa
 dd:Nat
 pub:Nat
 dg:Nat
 rows:List Ya
 ws:List Nat
 m:List (List Nat)
 crs:List (List Nat)
 l1:List Nat
 l2:List Nat
 l3:List Nat
 l4:List Nat
def PvIn.cols (x:PvIn):List (List Nat):=(List.range x.L.n).map fun i=>(List.range (x.m.length+3)).map (colV x.L (R7 x.L x.m x.crs x.l1 x.l2 x.l3) i)
def PvIn.pu (x:PvIn):List Nat:=(x.ws.drop 1).take x.pub
def PvIn.t1 (x:PvIn) (O:Oa):Tr:=qg O x.L x.dg x.pu
def PvIn.o2 (x:PvIn) (O:Oa):Oa:=TF x.dd (kd (x.t1 O).O 16 (pn x.cols x.l4)) (Mj (x.t1 O).O 16 (pn x.cols x.l4))
def PvIn.tree (x:PvIn) (O:Oa):List (List Nat):=Ls x.dd (kd (x.t1 O).O 16 (pn x.cols x.l4)) (Mj (x.t1 O).O 16 (pn x.cols x.l4))
def PvIn.root (x:PvIn) (O:Oa):Nat:=aI (x.tree O)
def PvIn.ch (x:PvIn) (O:Oa):ChR:=Em ⟨x.o2 O,(x.t1 O).st,0⟩ x.L.p (x.root O)
def PvIn.t2 (x:PvIn) (O:Oa):Tr:=oh ⟨x.o2 O,(x.t1 O).st,0⟩ (x.root O)
def PvIn.code (x:PvIn) (al:Nat):List Nat:=(List.range x.L.k).map (pcF x.L.p x.L.k al (fun k=>x.l1.getD k 0) (TT x.L x.m x.crs) x.m.length)
def PvIn.lin (x:PvIn) (rh:Nat):List Nat:=(List.range (x.L.k+x.L.block-1)).map (plF x.L.p (x.L.k+x.L.block-1) (fun k=>(au x.L x.l2).getD k 0) (ansD x.L (ML x.L x.pub rh x.rows) x.m x.crs) x.m.length)
def PvIn.quad (x:PvIn) (be:Nat):List Nat:=(List.range (2*x.L.k-1)).map (pqF x.L.p x.L.k (2*x.L.k-1) be (YA x.L.p x.L.block x.l3 x.l3.length) (ansXY x.L x.m x.crs) (ansZ x.L x.m x.crs) x.L.b)
def PvIn.all (x:PvIn) (O:Oa):List Nat:=x.code (x.ch O).al++x.lin (x.ch O).rh++x.quad (x.ch O).be
def PvIn.pos (x:PvIn) (O:Oa):List Nat:=xq (x.t2 O) (x.all O) x.L.n x.L.queries
def PvIn.oF (x:PvIn) (O:Oa):Oa:=WA (x.t2 O) (x.all O) x.L.queries
def PvIn.pr (x:PvIn) (O:Oa):Yg:=⟨x.root O,x.code (x.ch O).al,x.lin (x.ch O).rh,x.quad (x.ch O).be,(x.pos O).map fun i=>x.cols.getD i [],(x.pos O).map fun i=>x.l4.getD i 0,(x.pos O).map fun i=>Ay (x.tree O) i⟩
theorem zAB:∀ (d:Nat) (O:Oa) (l:List Nat),qx O -> (∀ x∈l,x<Ob) -> ∀ r∈Ls d O l,∀ x∈r,x<Ob
 | 0,_,l,_,hl=>fun r hr x hx=>by
  have e:r=l:=by simpa [Ls] using hr
  subst e;exact hl x hx
 | d+1,O,l,hO,hl=>fun r hr x hx=>by
  rcases Ij.1 (show r∈l :: Ls d (kd O 17 (tp l)) (Mj O 17 (tp l)) from hr) with e | e
  ·subst e
   exact hl x hx
  ·exact zAB d _ _ (mQ hO 17 _) (XT hO 17 _) r e x hx
theorem GU {l:List Nat} (hl:∀ x∈l,x<Ob) (i:Nat):l.getD i 0<Ob:=by
 by_cases h:i<l.length
 ·exact hl _ (bM 0 h)
 ·rw [Gc,Kx zO]
  decide
theorem K9 {ls:List (List Nat)} (h:∀ r∈ls,∀ x∈r,x<Ob) (k j:Nat):(ls.getD k []).getD j 0<Ob:=by
 by_cases hk:k<ls.length
 ·exact GU (h _ (bM [] hk)) j
 ·have e:ls.getD k []=[]:=by rw [Gc,Kx zO];rfl
  rw [e];show 0<Ob
  decide
theorem zFx {ls:List (List Nat)} (h:∀ r∈ls,∀ x∈r,x<Ob) (i:Nat):∀ x∈Ay ls i,x<Ob:=by
 rw [EW];intro x hx;obtain ⟨k,_,rfl⟩:=Ie.1 hx;exact K9 h _ _
theorem zGZ {ls:List (List Nat)} (h:∀ r∈ls,∀ x∈r,x<Ob):aI ls<Ob:=by
 unfold aI;cases ls with
 | nil=>decide
 | cons a r =>
  refine GU (h _ ?_) 0;rw [List.getLastD_cons];cases r with
  | nil=>exact .head _
  | cons b q=>rw [List.getLastD_eq_getLast?,List.getLast?_eq_some_getLast (List.cons_ne_nil b q)];exact .tail _ (List.getLast_mem _)
theorem zEA {p:Nat} (h:jc p=true):p <= Ob:=by
 rcases BC h with rfl | rfl | rfl | rfl | rfl | rfl | rfl <;> decide
section
variable (x:PvIn) (O:Oa)
theorem PvIn.cols_len:x.cols.length=x.L.n:=by simp [PvIn.cols]
theorem PvIn.cols_row (l:List Nat) (h:l∈x.cols):l.length=x.m.length+3:=by
 obtain ⟨i,-,rfl⟩:=Ie.1 h;simp
theorem PvIn.cols_els (hp:jc x.L.p=true):∀ l∈x.cols,Uc l=true:=fun l h=>by
 obtain ⟨i,-,rfl⟩:=Ie.1 h;unfold Uc;rw [Wg];intro y hy;obtain ⟨j,-,rfl⟩:=Ie.1 hy;have h1:=zCo (p:=x.L.p) (zQ (tc hp)) x.L.n x.L.n.log2 ((R7 x.L x.m x.crs x.l1 x.l2 x.l3).getD j []) (Vc x.L.p).1 i;have h2:=zEA hp;exact Qb (show colV _ _ _ _<Ob from Be h1 h2)
theorem PvIn.code_lt (hp:0<x.L.p) (h:∀ y∈x.l1,y<x.L.p) (al:Nat):∀ y∈x.code al,y<x.L.p:=fun y hy=>by
 obtain ⟨k,-,rfl⟩:=Ie.1 hy;exact I7 hp (fun k=>O0 hp h k) _ _
theorem PvIn.lin_lt (hp:0<x.L.p) (h:∀ y∈x.l2,y<x.L.p) (rh:Nat):∀ y∈x.lin rh,y<x.L.p:=fun y hy=>by
 obtain ⟨k,-,rfl⟩:=Ie.1 hy;refine P7 hp (fun k=>?_) _ _
 cases k with
 | zero=>exact cW hp _ _
 | succ k=>exact O0 hp h k
theorem PvIn.quad_lt (hp:0<x.L.p) (be:Nat):∀ y∈x.quad be,y<x.L.p:=fun y hy=>by
 obtain ⟨k,-,rfl⟩:=Ie.1 hy;exact Z7 hp (fun k=>LS hp _ _ _) _ _
theorem PvIn.tree_lt (h:qx (x.t1 O).O):∀ r∈x.tree O,∀ y∈r,y<Ob:=zAB _ _ _ (mQ h 16 _) (XT h 16 _)
end
theorem zD8 {i Q:Nat} (h:i<Q):Q-(intOf (vd vt ((i+1:Nat):Int))).toNat<Q-(intOf (vd vt i)).toNat:=by
 simp only [intOf,Dn];omega
theorem oP (g:Nat):∀ (xs:List vw) (k:Nat) (w:vv),(Cc w g xs k).1.size=w.1.size /\ (Cc w g xs k).os=w.os /\ (Cc w g xs k).tape=w.tape /\ (Cc w g xs k).output=w.output
 | [],_,_=>⟨rfl,rfl,rfl,rfl⟩
 | x :: xs,k,w=>by
  have h:=oP g xs (k+1) (w.setCell ⟨g,k,vB⟩ x);exact ⟨h.1.trans (by simp [vE]),h.2.1.trans rfl,h.2.2.1.trans rfl,h.2.2.2.trans rfl⟩
theorem zF1 {w7 w16 wr u:vv} {F4:Nat -> Prop} {gP N R B0 B6 B13 B15 i k1 k2 k3:Nat} {x:PvIn} {O:Oa} {cd ln qd pos:List Nat} {tr:List (List Nat)} {P1 P2 P3 Ac As Ap:Option vx} {p1 p2 p3 ca cs cp:Nat} {xs:Nat -> vw} {nn:Nat -> Nat} {vs:Nat -> List vw}
  (hU:∀ j,B0 <= j -> j<N -> j≠gP -> j≠R -> ¬F4 j -> u.1[j]?=w16.1[j]?) (hV:∀ j,N <= j -> j<wr.1.size -> u.1[j]?=wr.1[j]?) (hW:∀ j,R<j -> j<w7.1.size -> u.1[j]?=w7.1[j]?) (hus:w7.1.size <= u.1.size)
  (b0:B0 <= B13) (b1:R<B13) (b2:gP<B13) (b3:B15 <= N) (b4:R<B6) (b5:B6 <= w7.1.size) (b6:w7.1.size <= N) (n1:∀ b,B13 <= b -> b<B15 -> ¬F4 b)
  (o1:w16.ownsRow B13 22 1 (ve P1 k1 p1) k1 (Qa cd)) (o2:w16.ownsRow B13 22 1 (ve P2 k2 p2) k2 (Qa ln)) (o3:w16.ownsRow B13 22 1 (ve P3 k3 p3) k3 (Qa qd))
  (l1:(∀ b,(ve P1 k1 p1).ownBlock=vD b -> B13 <= b /\ b<B15) /\ (∀ b,(ve P2 k2 p2).ownBlock=vD b -> B13 <= b /\ b<B15) /\ ∀ b,(ve P3 k3 p3).ownBlock=vD b -> B13 <= b /\ b<B15)
  (c1:∀ y∈cd,y<18446744073709551616) (c2:∀ y∈ln,y<18446744073709551616) (c3:∀ y∈qd,y<18446744073709551616) (Zu:cd=x.code (x.ch O).al) (Of:ln=x.lin (x.ch O).rh) (AH:qd=x.quad (x.ch O).be)
  (Qd:OwnF N wr (i+3) tyF xs nn vs) (Xd:InvP pos x.cols x.l4 (fun z=>Ay tr z) x.dd B6 w7 i xs nn vs) (Og:pos.length=i) (bs:pos=x.pos O) (oy:tr=x.tree O) (e0:xs 0=ve Ac i ca) (e1:xs 1=ve As i cs) (e2:xs 2=ve Ap i cp)
  (XQ:x.root O<Ob) (hsa:Uc x.l4=true) (bn:∀ r∈x.tree O,∀ y∈r,y<Ob) :
  Pm u (x.pr O) ⟨P1,k1,p1,P2,k2,p2,P3,k3,p3,Ac,i,ca,As,i,cs,Ap,i,cp⟩:=by
 have pV:OwnF N u (i+3) tyF xs nn vs:=⟨fun j hj=>Ge (Qd.own j hj) fun b hb=>hV b ((Qd.own j hj).lt b hb).1 ((Qd.own j hj).lt b hb).2,Qd.apart⟩
 have htk:pos.take i=pos:=GD zO;refine ⟨Sp XQ,?_,?_,?_,?_,?_,?_⟩
 ·show RWd u [ve P1 k1 p1] (x.code (x.ch O).al)
  rw [<- Zu];exact Yf (Ge o1 fun b hb=>by have h1:=l1.1 b hb;exact hU b zO zO zO zO (n1 b h1.1 h1.2)) c1
 ·show RWd u [ve P2 k2 p2] (x.lin (x.ch O).rh)
  rw [<- Of];exact Yf (Ge o2 fun b hb=>by have h1:=l1.2.1 b hb;exact hU b zO zO zO zO (n1 b h1.1 h1.2)) c2
 ·show RWd u [ve P3 k3 p3] (x.quad (x.ch O).be)
  rw [<- AH];exact Yf (Ge o3 fun b hb=>by have h1:=l1.2.2 b hb;exact hU b zO zO zO zO (n1 b h1.1 h1.2)) c3
 ·show RSl 1 RWd u [ve Ac i ca] ((x.pos O).map fun k=>x.cols.getD k [])
  rw [<- bs,<- e0];have hc:=Xd.c;rw [htk] at hc;exact (zEC hc hus (fun b h1 h2=>hW b zO h2) (pV.own 0 zO) b6 b5).here
 ·show RWd u [ve As i cs] ((x.pos O).map fun k=>x.l4.getD k 0)
  rw [<- bs];have ho:=pV.own 1 zO;have hs:=Xd.s;rw [htk] at hs;rw [e1,Xd.n1,hs] at ho;exact Yf ho fun y hy=>by
   obtain ⟨k,-,rfl⟩:=Ie.1 hy;exact Sp (GU (fun y hy=>of_decide_eq_true (Wg.1 hsa y hy)) k)
 ·show RSl 1 RWd u [ve Ap i cp] ((x.pos O).map fun k=>Ay (x.tree O) k)
  rw [<- bs,<- oy,<- e2];exact zFy (pf:=fun z=>Ay tr z) pV Xd.p Xd.r Og fun z y hy=>Sp (zFx (by rw [oy];exact bn) z y hy)
def NC (L:Xa) (m r:List (List Nat)):List (List Nat):=(List.range m.length).map (mu L m r)
def gQ (L:Xa) (m r:List (List Nat)) (co:List Nat) (al:Nat):List Nat:=lh (yg L.p co (zt L.p (NC L m r) al m.length)) L.k
def iQ (L:Xa) (cs m r:List (List Nat)) (li:List Nat):List Nat:=lh (yg L.p (au L li) (Fs L.p (NC L m r) (sn L.p cs) m.length)) (L.k+L.block-1)
def jQ (L:Xa) (m r:List (List Nat)) (qu:List Nat) (be:Nat):List Nat:=lh (yg L.p (qn L qu) (lu L.p L.a L.b (NC L m r) be L.b)) (2*L.k-1)
structure TP (L:Xa) (m r:List (List Nat)):Prop where
 ml:m.length=L.a+L.b+L.b+L.b
 rl:r.length=m.length
 mr:∀ x∈m,x.length=L.block
 rr:∀ x∈r,x.length=L.queries
theorem JQ {l:List (List Nat)} {P:List Nat -> Prop} (h:∀ x∈l,P x) {i:Nat} (hi:i<l.length):P (l.getD i []):=by
 rw [ZB hi];exact h _ (pg hi)
theorem zG2 {L:Xa} (hL:ed L) {m r:List (List Nat)} (h:TP L m r) {i:Nat} (hi:i<m.length):(NC L m r).getD i []=FN L m r i:=by
 have e:(NC L m r).getD i []=mu L m r i:=by
  rw [NC,Gc,List.getElem?_map,List.getElem?_range hi]
  rfl
 have h1:=JQ h.mr hi;have h2:=JQ h.rr (show i<r.length by rw [h.rl];exact hi)
 rw [e,mu,zG1 hL h1 h2,yR,h2,<- hL.k]
 rfl
theorem aX (L:Xa) (m r:List (List Nat)):(NC L m r).length=m.length:=by simp [NC]
theorem zG3 {L:Xa} (hL:ed L) {m r:List (List Nat)} (h:TP L m r):∀ x∈NC L m r,x.length=L.k:=fun x hx=>by
 obtain ⟨i,hi,rfl⟩:=jt hx;rw [aX] at hi;have e:=zG2 hL h hi;rw [ZB (by rw [aX];exact hi)] at e
 rw [e];simp [FN]
theorem wtF_eq {L:Xa} (hL:ed L) {cs:List (List Nat)} (Jl:∀ x∈cs,x.length=L.block) {i:Nat} (hi:i<cs.length):(sn L.p cs).getD i []=(List.range L.block).map (Ow L.p L.block L.block.log2 (cs.getD i [])):=by
 obtain ⟨hlen,j,hj⟩:=RH hL;have pM:L.block.log2=j:=by rw [hj];exact Nat.log2_two_pow
 have h1:=JQ Jl hi;have e:(sn L.p cs).getD i []=wtF L.p cs i:=by
  rw [sn,Gc,List.getElem?_map,List.getElem?_range hi]
  rfl
 rw [e,wtF,h1];refine NB fun k hk=>?_
 have hk':=Lm.1 hk;rw [K3 (j:=j) _ hL.p (by rw [h1];exact hlen) (by rw [h1];exact hj) zO,h1,pM]
theorem MN {p:Nat} (a b:Nat):Cg p ((a*b%p:Nat):Int) ((a:Int)*b):=(Cg.mod _).trans (Cg.of_eq (Th _ _))
theorem LY {p:Nat} (a b:Nat):Cg p (((a+b)%p:Nat):Int) ((a:Int)+b):=(Cg.mod _).trans (Cg.of_eq (Vv _ _))
def Fy (f:Nat -> Nat) (n:Nat):List (List Nat):=(List.range n).map fun k=>[f k]
def PF (p a b:Nat):Nat:=(a+Qf p b)%p
def jJ (L:Xa) (cs:List (List Nat)) (al be:Nat) (a b c:List Nat) (x:Nat) (v:List Nat):List Nat :=
 [PF L.p (Re L.p a x) (Re L.p (zt L.p (Fy (fun k=>v.getD k 0) v.length) al v.length) 0),
  PF L.p (Re L.p b x) (Re L.p (Fs L.p (Fy (fun k=>v.getD k 0) v.length) (Fy (fun k=>Re L.p ((sn L.p cs).getD k []) x) v.length) v.length) 0),
  PF L.p (Re L.p c x) (Re L.p (lu L.p L.a L.b (Fy (fun k=>v.getD k 0) v.length) be L.b) 0)]
theorem UM {f:Nat -> Nat} {n k:Nat} (h:k<n):(Fy f n).getD k []=[f k]:=by
 rw [Fy,Gc,List.getElem?_map,List.getElem?_range h]
 rfl
theorem SL (v:Nat) (x:Int):Ci [v] x=(v:Int):=by
 show 0+(v:Int)*x^0=_
 rw [Int.pow_zero];omega
theorem fL {p:Nat} (hp:0<p) (a b:Nat):Cg p (PF p a b:Int) ((a:Int)-b) :=
 (LY _ _).trans ((Cg.rfl'.add (GO p b hp)).trans (Cg.of_eq zO))
theorem zCn {p:Nat} (hp:1<p) (a b:List Nat) (x:Int):Cg p (Ci (QF p a b) x) (Ci a x-Ci b x):=by
 unfold QF;refine (YN a _ x).trans ((Cg.rfl'.add ((wQ b _ x).trans ((GO p 1 zO).mul Cg.rfl'))).trans (Cg.of_eq ?_));rw [show (((1:Nat):Int))=1 from rfl,Int.neg_mul,Int.one_mul]
 omega
theorem UY {p:Nat} (rows:List (List Nat)) (al:Nat) (x:Int):∀ i,Cg p (Ci (zt p rows al i) x) (sc (fun j=>(Ji p al (j+1):Int)*Ci (rows.getD j []) x) i)
 | 0=>Cg.rfl'
 | i+1=>by
  rw [zt,sc];exact (YN _ _ x).trans ((UY rows al x i).add (wQ _ _ x))
theorem zIv {p:Nat} (rows ws:List (List Nat)) (x:Int):∀ i,Cg p (Ci (Fs p rows ws i) x) (sc (fun j=>Ci (ws.getD j []) x*Ci (rows.getD j []) x) i)
 | 0=>Cg.rfl'
 | i+1=>by
  rw [Fs,sc];exact (YN _ _ x).trans ((zIv rows ws x i).add (FZ _ _ x))
theorem z8 {p:Nat} (hp:1<p) (a b:Nat) (rows:List (List Nat)) (be:Nat) (x:Int):∀ i,Cg p (Ci (lu p a b rows be i) x) (sc (fun j=>(Ji p be (j+1):Int)*(Ci (rows.getD (a+j) []) x*Ci (rows.getD (a+b+j) []) x-Ci (rows.getD (a+b+b+j) []) x)) i)
 | 0=>Cg.rfl'
 | i+1=>by
  rw [lu,sc];refine (YN _ _ x).trans ((z8 hp a b rows be x i).add ((wQ _ _ x).trans (Cg.rfl'.mul ?_)));unfold aM;refine (zCn hp _ _ x).trans ?_;obtain ⟨c,hc⟩:=FZ (p:=p) (rows.getD (a+i) []) (rows.getD (a+b+i) []) x;exact ⟨c,by rw [<- hc];omega⟩
theorem zBP {p:Nat} (f:Nat -> Nat) (al n:Nat):Cg p (Re p (zt p (Fy f n) al n) 0:Int) (sc (fun j=>(Ji p al (j+1):Int)*(f j:Int)) n):=by
 refine (yQ _).trans ((UY _ _ _ _).trans (RF _ fun j hj=>?_))
 rw [UM hj,SL];exact Cg.rfl'
theorem zDZ {p:Nat} (f g:Nat -> Nat) (n:Nat):Cg p (Re p (Fs p (Fy f n) (Fy g n) n) 0:Int) (sc (fun j=>(g j:Int)*(f j:Int)) n):=by
 refine (yQ _).trans ((zIv _ _ _ _).trans (RF _ fun j hj=>?_))
 rw [UM hj,UM hj,SL,SL];exact Cg.rfl'
theorem zF6 {p:Nat} (hp:1<p) {a b n:Nat} (hn:a+b+b+b=n) (f:Nat -> Nat) (be:Nat):Cg p (Re p (lu p a b (Fy f n) be b) 0:Int) (sc (fun j=>(Ji p be (j+1):Int)*((f (a+j):Int)*(f (a+b+j):Int)-(f (a+b+b+j):Int))) b):=by
 refine (yQ _).trans ((z8 hp _ _ _ _ _ _).trans (RF _ fun j hj=>?_))
 rw [UM zO,UM zO,UM zO,SL,SL,SL];exact Cg.rfl'
def JG (p al:Nat) (f:Nat -> Nat) (e:Nat):Nat -> Nat
 | 0=>e
 | j+1=>PF p (JG p al f e j) (Ji p al (j+1)*f j%p)
def KG (p:Nat) (d f:Nat -> Nat) (e:Nat):Nat -> Nat
 | 0=>e
 | j+1=>PF p (KG p d f e j) (d j*f j%p)
def Ux (p a b be:Nat) (f:Nat -> Nat) (e:Nat):Nat -> Nat
 | 0=>e
 | j+1=>PF p (Ux p a b be f e j) (Ji p be (j+1)*PF p (f (a+j)*f (a+b+j)%p) (f (a+b+b+j))%p)
theorem gL {p:Nat} (hp:0<p) (a b:Nat):PF p a b<p:=Ic _ hp
theorem rX {p:Nat} {a b t u:Int} {x y:Int} (h:Cg p a (b-t)) (h2:Cg p x (a-y)) (h3:Cg p y u):Cg p x (b-(t+u)):=by
 obtain ⟨c,hc⟩:=h;obtain ⟨d,hd⟩:=h2;obtain ⟨e,he⟩:=h3;exact ⟨c+d-e,by rw [Int.mul_sub,Int.mul_add,<- hc,<- hd,<- he];omega⟩
theorem RY {p:Nat} (hp:0<p) (al:Nat) (f:Nat -> Nat) (e:Nat):∀ j,Cg p (JG p al f e j:Int) ((e:Int)-sc (fun j=>(Ji p al (j+1):Int)*(f j:Int)) j)
 | 0=>Cg.of_eq (by rw [JG,sc];omega)
 | j+1=>by
  rw [JG,sc];exact rX (RY hp al f e j) (fL hp _ _) (MN _ _)
theorem SY {p:Nat} (hp:0<p) (d f:Nat -> Nat) (e:Nat):∀ j,Cg p (KG p d f e j:Int) ((e:Int)-sc (fun j=>(d j:Int)*(f j:Int)) j)
 | 0=>Cg.of_eq (by rw [KG,sc];omega)
 | j+1=>by
  rw [KG,sc];exact rX (SY hp d f e j) (fL hp _ _) (MN _ _)
theorem TY {p:Nat} (hp:0<p) (a b be:Nat) (f:Nat -> Nat) (e:Nat):∀ j,Cg p (Ux p a b be f e j:Int) ((e:Int)-sc (fun j=>(Ji p be (j+1):Int)*((f (a+j):Int)*(f (a+b+j):Int)-(f (a+b+b+j):Int))) j)
 | 0=>Cg.of_eq (by rw [Ux,sc];omega)
 | j+1=>by
  rw [Ux,sc];refine rX (TY hp a b be f e j) (fL hp _ _) ((MN _ _).trans (Cg.rfl'.mul ((fL hp _ _).trans ?_)));obtain ⟨c,hc⟩:=MN (p:=p) (f (a+j)) (f (a+b+j));exact ⟨c,by rw [<- hc];omega⟩
def nL (L:Xa) (x:Nat):List Nat:=(List.range L.block).map (Ow L.p L.block L.block.log2 ((List.range L.block).map fun i=>x^i%L.p))
theorem qZ {p:Nat} (a b:List Nat):∀ k,Cg p (Wx p a b k:Int) (sc (fun m=>(a.getD m 0:Int)*(b.getD m 0:Int)) k)
 | 0=>Cg.rfl'
 | k+1=>by
  rw [Wx,sc];refine (LY _ _).trans ((qZ a b k).add ((MN _ _).trans ((Cg.mod _).mul (Cg.mod _))))
theorem zCa {L:Xa} (hL:ed L) {cs:List (List Nat)} (Jl:∀ x∈cs,x.length=L.block) {j:Nat} (hj:j<cs.length) (x:Nat):Cg L.p (Wx L.p (cs.getD j []) (nL L x) L.block:Int) (Re L.p ((sn L.p cs).getD j []) x:Int):=by
 obtain ⟨hlen,t,ht⟩:=RH hL;have pM:L.block=2^L.block.log2:=by rw [ht,Nat.log2_two_pow]
 refine (qZ _ _ _).trans ?_;refine Cg.trans ?_ (yQ _).symm;rw [wtF_eq hL Jl hj,<- XN _ _ (n:=L.block) zS,WN];obtain ⟨v,hv⟩:∃ v:Int,v=((Zj L.p L.block^(L.p-2)%L.p:Nat):Int):=⟨_,rfl⟩;obtain ⟨s,hs⟩:∃ s:Int,s=((L.block^(L.p-2)%L.p:Nat):Int):=⟨_,rfl⟩;obtain ⟨c,hc⟩:∃ c:Nat -> Int,c=fun m=>(((cs.getD j []).getD m 0:Nat):Int):=⟨_,rfl⟩
 have hA:Cg L.p (sc (fun m=>((cs.getD j []).getD m 0:Int)*((nL L x).getD m 0:Int)) L.block) (sc (fun m=>sc (fun k=>c m*(s*((x:Int)^k*(v^m)^k))) L.block) L.block):=by
  refine RF _ fun m hm=>?_
  rw [nL,By,Gb hm];refine (Cg.rfl'.mul (LV _ hL.p hlen pM hm)).trans ?_;rw [<- hv,<- hs,WN,tP,tP];refine RF _ fun k hk=>?_
  rw [By,Gb hk,hc];refine Cg.rfl'.mul (Cg.rfl'.mul (Cg.mul ?_ Cg.rfl'));exact (Cg.mod _).trans (Cg.of_eq (Int.natCast_pow _ _))
 have hB:Cg L.p (sc (fun k=>VB ((List.range L.block).map (Ow L.p L.block L.block.log2 (cs.getD j []))) k*(x:Int)^k) L.block) (sc (fun k=>sc (fun m=>c m*(s*((x:Int)^k*(v^m)^k))) L.block) L.block):=by
  refine RF _ fun k hk=>?_
  rw [VB,By,Gb hk];refine ((LV _ hL.p hlen pM hk).mul Cg.rfl').trans ?_;rw [<- hv,<- hs,WN,tP,Int.mul_comm,tP];refine RF _ fun m _=>Cg.of_eq ?_
  rw [hc,<- Int.pow_mul,<- Int.pow_mul,Jj m k]
  grind
 refine hA.trans (Cg.trans (Cg.of_eq ?_) hB.symm);exact AS (fun m k=>c m*(s*((x:Int)^k*(v^m)^k))) L.block L.block
theorem zBT {L:Xa} (hL:ed L) {cs:List (List Nat)} (Jl:∀ x∈cs,x.length=L.block) (al be:Nat) (a b c:List Nat) (x:Nat) {v:List Nat} (hv:v.length=L.a+L.b+L.b+L.b) (tw:cs.length=v.length) :
  [JG L.p al (fun k=>v.getD k 0) (Re L.p a x) v.length,KG L.p (fun j=>Wx L.p (cs.getD j []) (nL L x) L.block) (fun k=>v.getD k 0) (Re L.p b x) v.length,Ux L.p L.a L.b be (fun k=>v.getD k 0) (Re L.p c x) L.b]=jJ L cs al be a b c x v:=by
 have hp:=tc hL.p;have l0:∀ e,e<L.p -> ∀ j,JG L.p al (fun k=>v.getD k 0) e j<L.p:=fun e he j=>by
  cases j with
  | zero=>exact he
  | succ j=>exact gL zO _ _
 have l1:∀ d e,e<L.p -> ∀ j,KG L.p d (fun k=>v.getD k 0) e j<L.p:=fun d e he j=>by
  cases j with
  | zero=>exact he
  | succ j=>exact gL zO _ _
 have l2:∀ e,e<L.p -> ∀ j,Ux L.p L.a L.b be (fun k=>v.getD k 0) e j<L.p:=fun e he j=>by
  cases j with
  | zero=>exact he
  | succ j=>exact gL zO _ _
 unfold jJ
 congr 1
 ·refine Cg.eq (p:=L.p) ((RY zO _ _ _ _).trans (Cg.trans ?_ (fL zO _ _).symm)) (l0 _ (ZN zO _ _) _) (gL zO _ _)
  obtain ⟨d,hd⟩:=zBP (p:=L.p) (fun k=>v.getD k 0) al v.length
  exact ⟨d,by rw [<- hd];omega⟩
 congr 1
 ·refine Cg.eq (p:=L.p) ((SY zO _ _ _ _).trans (Cg.trans ?_ (fL zO _ _).symm)) (l1 _ _ (ZN zO _ _) _) (gL zO _ _)
  have h1:Cg L.p (Re L.p (Fs L.p (Fy (fun k=>v.getD k 0) v.length) (Fy (fun k=>Re L.p ((sn L.p cs).getD k []) x) v.length) v.length) 0:Int) (sc (fun j=>((Re L.p ((sn L.p cs).getD j []) x:Nat):Int)*((v.getD j 0:Nat):Int)) v.length):=zDZ (p:=L.p) (fun k=>v.getD k 0) (fun k=>Re L.p ((sn L.p cs).getD k []) x) v.length
  have h2:Cg L.p (sc (fun j=>((Wx L.p (cs.getD j []) (nL L x) L.block:Nat):Int)*((v.getD j 0:Nat):Int)) v.length) (sc (fun j=>((Re L.p ((sn L.p cs).getD j []) x:Nat):Int)*((v.getD j 0:Nat):Int)) v.length) :=
   RF _ fun j hj=>(zCa hL Jl zO x).mul Cg.rfl'
  obtain ⟨d,hd⟩:=h1;obtain ⟨e,he⟩:=h2;exact ⟨d-e,by rw [Int.mul_sub,<- hd,<- he];omega⟩
 congr 1
 ·refine Cg.eq (p:=L.p) ((TY zO _ _ _ _ _ _).trans (Cg.trans ?_ (fL zO _ _).symm)) (l2 _ (ZN zO _ _) _) (gL zO _ _)
  obtain ⟨d,hd⟩:=zF6 (p:=L.p) zO hv.symm (fun k=>v.getD k 0) be
  exact ⟨d,by rw [<- hd];omega⟩
structure PvIn.Good (x:PvIn):Prop where
 L:ed x.L
 n:x.L.n=2^x.dd
 dd:x.dd <= 10
 ms:TP x.L x.m x.crs
 c1:x.l1.length=x.L.k /\ ∀ y∈x.l1,y<x.L.p
 c2:x.l2.length=x.L.k+x.L.block-2 /\ ∀ y∈x.l2,y<x.L.p
 c3:x.l3.length=x.L.block+2*x.L.queries-1 /\ ∀ y∈x.l3,y<x.L.p
 c4:x.l4.length=x.L.n /\ Uc x.l4=true
def PvIn.RefSame (x:PvIn) (O:Oa):Prop:=qQ x.L (TO x.L x.m x.crs x.l1 x.l2 x.l3)=x.cols /\ gQ x.L x.m x.crs x.l1 (x.ch O).al=x.code (x.ch O).al /\ iQ x.L (Bl x.L x.pub (x.ch O).rh x.rows) x.m x.crs x.l2=x.lin (x.ch O).rh /\ jQ x.L x.m x.crs x.l3 (x.ch O).be=x.quad (x.ch O).be
section
variable {x:PvIn}
end
theorem zE0 {w:vv} {base g:Nat} {l:List Nat} (k:Blk w g 22 (Qa l).toArray) (hb:base <= g) (hn:l.length <= maxLen):w.ownsRow base 22 1 (ve (vD ⟨g,0,vB⟩) l.length l.length) l.length (Qa l):=by
 have e:(Qa l).toArray=Fb l.length (fun k=>l.getD k 0):=by rw [NG,n9 l _ rfl]
 rw [e] at k;have:=zEQ k hb hn;rw [n9 l _ rfl] at this;exact this
theorem zE8 (L:Xa) (pu Na al be:Nat) (vars:Int) (A B1 B2 B3 F:Option vx) (R c m1 d1 m2 d2 m3 d3 i n d:Nat) (rows:List Ya) (a b q front:List Nat) (w:vv)
  (hL:ed L) (hF:Px L pu vars rows) (hr:RSl 3 Ue w [ve A R c] rows) (hV:LD vars rows)
  (ha:RWd w [ve B1 m1 d1] a) (hb:RWd w [ve B2 m2 d2] b) (hq:RWd w [ve B3 m3 d3] q) (hf:RWd w [ve F n d] front) (hi:i<L.n) (hn:front.length=L.a+L.b+L.b+L.b) :
  vA prog 199 #[vf (Eb L),Kc L.p (pu:Int) vars (ve A R c),vf #[vd vq al,vd vq Na,vd vq be],ve B1 m1 d1,ve B2 m2 d2,ve B3 m3 d3,vd vt i,ve F n d] w fun e w'=>∃ v,e=vn v /\ w'.ownsRow w.1.size 22 1 v 3 (Qa (jJ L (Bl L pu Na rows) al be a b q (Ni L.p (Vc L.p).1 L.n i) front)) /\ vz w.1.size w w':=by
 obtain ⟨Lc,Nb⟩:=tc hL.p;have Ew:=hL.a;have Fw:=hL.b;have Tf:=hL.n2;have La:=hL.b1;have Da:=hL.b2;obtain ⟨hlen,j0,hj0⟩:=RH hL;have dA:L.block=2^L.block.log2:=by rw [hj0,Nat.log2_two_pow]
 obtain ⟨hfn,hfc,Jb,-,nA⟩:=Mb hf;obtain ⟨x,hx⟩:=zEX (Ni L.p (Vc L.p).1 L.n i);rw [<- hx];have BG:=zH (fun w=>by have:=UR L.p L.block L.queries L.k L.n L.secret L.rows L.a L.b L.b L.b w hL.a hL.b hL.b hL.b;rw [<- hn,<- hfn] at this;exact this)
 have rG:=zH (fun w=>B7 L w hL)
 have HCf:=zH (fun w' (hb:vz w.1.size w w')=>zE5 L pu Na vars A R c rows w' hL hF (jg Qg _ _ _ _ hb hr) hV)
 have HEv:Hid (∀ (A:Option vx) (n c:Nat) (l:List Nat) (w:vv),RWd w [ve A n c] l -> vA prog 194 #[fv L.p,ve A n c,vd vq x] w fun e w'=>e=vn (vd vq ((Re L.p l x:Nat):Int)) /\ vz w.1.size w w'):=zH (fun A n c l w hl=>by rw [<- J1 zO];exact z7 L.p A n c x l w hL.p hl)
 have sG:=zH (fun w=>sU L.p x L.block w hL.p zO)
 have HIv:=zH (fun A c l w hl=>zHG L.p A L.block c L.block.log2 l w hL.p hl hlen dA)
 have HM:=zH (fun a b w=>YD L.p a b w hL.p)
 have HS:=zH (fun a b w=>tU L.p a b w hL.p)
 have HD:=zH (fun A B n c m d a b w ha hb hnm=>zCr L.p A B n c m d a b w hL.p ha hb hnm)
 have HSp:=zH (show ∀ (w:vv),vA prog 259 #[vf (Eb L),ve F n d] w fun e w'=>(∃ X1 X2 X3 c1 c2 c3,e=vn (.tuple #[ve F L.a d,ve X1 L.b c1,ve X2 L.b c2,ve X3 L.b c3]) /\ (0<L.b -> ∀ g o,F=vD ⟨g,o,vB⟩ -> X1=vD ⟨g,o+L.a,vB⟩ /\ X2=vD ⟨g,o+(L.a+L.b),vB⟩ /\ X3=vD ⟨g,o+(L.a+L.b+L.b),vB⟩)) /\ vz w.1.size w w' from fun w=>by
  have hs:=zHx L F n d L.a (L.a+L.b) (L.a+L.b+L.b) w hL rfl rfl rfl zO hfc Jb;have a1:L.a+L.b-L.a=L.b:=by omega
  have a2:L.a+L.b+L.b-(L.a+L.b)=L.b:=by omega
  have a3:n-(L.a+L.b+L.b)=L.b:=by omega
  unfold SN at hs;rw [a1,a2,a3] at hs;refine hs.mono ?_;rintro e w' ⟨rfl,hb⟩;refine ⟨⟨_,_,_,_,_,_,rfl,fun h g o e=>?_⟩,hb⟩
  subst e;refine ⟨?_,?_,?_⟩
  ·rw [mb zO]
   show vD ((⟨g,o,vB⟩:vx).add L.a)=_
   rw [yt]
  ·rw [mb zO]
   show vD ((⟨g,o,vB⟩:vx).add (L.a+L.b))=_
   rw [yt]
  ·rw [mb zO]
   show vD ((⟨g,o,vB⟩:vx).add (L.a+L.b+L.b))=_
   rw [yt])
 obtain ⟨Zg,cH⟩:=zEX (ML L pu Na rows);have Zu:Zg=Bl L pu Na rows:=by rw [cH];exact zBQ zO pu Na rows
 have tw:Zg.length=n:=by rw [Zu,eU];omega
 have Qz:∀ r∈Zg,r.length=L.block:=by rw [Zu];exact fU
 obtain ⟨f,UJ⟩:∃ f:Nat -> Nat,f=fun k=>front.getD k 0:=⟨_,rfl⟩
 obtain ⟨W,hW⟩:=zEX (nL L x);obtain ⟨dv,Bk⟩:∃ dv:Nat -> Nat,dv=fun j=>Wx L.p (Zg.getD j []) W L.block:=⟨_,rfl⟩
 obtain ⟨C0,hC0⟩:=zEX (JG L.p al f (Re L.p a x));obtain ⟨C1,hC1⟩:=zEX (KG L.p dv f (Re L.p b x));obtain ⟨C2,hC2⟩:=zEX (Ux L.p L.a L.b be f (Re L.p q x));have hE:=zBT hL Qz al be a b q x hn zO;rw [<- Zu,<- hE,<- hfn];have HE:=zH (show [JG L.p al (fun k=>front.getD k 0) (Re L.p a x) n,KG L.p (fun j=>Wx L.p (Zg.getD j []) (nL L x) L.block) (fun k=>front.getD k 0) (Re L.p b x) n,Ux L.p L.a L.b be (fun k=>front.getD k 0) (Re L.p q x) L.b]=[C0 n,C1 n,C2 L.b] by rw [hC0,hC1,hC2,Bk,hW,UJ])
 rw [HE.out];obtain ⟨P,hP⟩:=zEX (Ji L.p al);obtain ⟨P2,hP2⟩:=zEX (Ji L.p be);have H00:=zH (show C0 0=Re L.p a x by rw [hC0];rfl)
 have H10:=zH (show C1 0=Re L.p b x by rw [hC1];rfl)
 have H20:=zH (show C2 0=Re L.p q x by rw [hC2];rfl)
 have H0S:=zH (show ∀ j,C0 (j+1)=(C0 j+Qf L.p (P (j+1)*f j%L.p))%L.p from fun j=>by rw [hC0,hP];rfl)
 have H1S:=zH (show ∀ j,C1 (j+1)=(C1 j+Qf L.p (dv j*f j%L.p))%L.p from fun j=>by rw [hC1];rfl)
 have H2S:=zH (show ∀ j,C2 (j+1)=(C2 j+Qf L.p (P2 (j+1)*((f (L.a+j)*f (L.a+L.b+j)%L.p+Qf L.p (f (L.a+L.b+L.b+j)))%L.p)%L.p))%L.p from fun j=>by rw [hC2,hP2];rfl)
 have Wl:=zH (show P 0=1 by rw [hP];rfl)
 have oD:=zH (show ∀ i,P (i+1)=P i*al%L.p from fun i=>by rw [hP];rfl)
 have rD:=zH (show P2 0=1 by rw [hP2];rfl)
 have sD:=zH (show ∀ i,P2 (i+1)=P2 i*be%L.p from fun i=>by rw [hP2];rfl)
 have HDV:=zH (show ∀ j (h:j<Zg.length),dv j=Wx L.p Zg[j] W L.block from fun j h=>by rw [Bk,<- ZB h])
 have bt:=zH (show (List.range L.block).map (Ow L.p L.block L.block.log2 ((List.range L.block).map fun i=>x^i%L.p))=W from hW.symm)
 have HFF:=zH (show ∀ k,f k=front.getD k 0 from fun k=>by rw [UJ])
 have mB:=zH tw;have Qy:=zH Qz;have Gu:=zH (show ∀ i,x^i%L.p<18446744073709551616 from fun i=>gg (Ic _ zO) Nb)
 have HIX:=zH (show ∀ l k,Ow L.p L.block L.block.log2 l k<18446744073709551616 from fun l k=>gg (Ic _ zO) Nb)
 have HX:=zH hx;have HN4:=zH (show n=L.a+L.b+L.b+L.b by omega)
 have oB:=zH hfn;have W0:=cH;rw [<- W0] at HCf;have gi0:(0:Int)<=i:=by omega
 have gi1:(i:Int)<L.n:=by omega
 have gi2:¬((i:Int)<0):=by omega
 have gi3:¬((L.n:Int)<=i):=by omega
 have gi4:decide ((i:Int)<0)=false:=Ib gi2;have gi5:decide ((L.n:Int)<=i)=false:=Ib gi3;have d0:((n:Int)!=n)=false:=by simp
 have gn:n <= 400000:=by omega
 have gB:L.block <= 256:=Da;have gB1:2 <= L.block:=La;have gNN:(L.n:Int) <= 1024:=by omega
 have glb:L.b <= 100000:=Fw;have Yl:=zH (by rw [hfn] at nA;exact nA:Rd w 1 F front.length (Qa front))
 clear Lc Nb Ew Fw Tf La Da hlen hj0 dA hfn hfc Jb nA hx cH W0 Zu tw Qz UJ hW Bk hC0 hC1 hC2 hE hP hP2 hL hF hr hV hi hn HE;unfold Eb Kc fv at *;obtain ⟨kl,kt,kx,ba,-⟩:=Tp w 121 25 161 #[vd vq L.p,vd vt L.block,vd vt L.queries,vd vt L.k,vd vt L.n,vd vt L.secret,vd vt L.rows,vd vt L.a,vd vt L.b,vd vt L.b,vd vt L.b] #[vd vq L.p,vd vt pu,vd vt vars,ve A R c] #[vd vq al,vd vq Na,vd vq be];go_enter func199,ntmps199
 go_upto_region 1 with fail
 generalize ((w.alloc _).alloc _).alloc _=w1 at kl kt kx ba |-;have cl:=kl.cell;go_upto_region 2 with fail
 obtain ⟨kf,ja⟩:=zN w1 250 #[vd vq L.p];replace kl:=ma kl ja;replace kt:=ma kt ja;replace kx:=ma kx ja;replace ba:=pa ba ja;generalize w1.alloc _=w2 at kl kt kx kf ba |-;generalize w1.1.size=gf at kf |-;clear ja cl;have cl:=kl.cell;go_wp2_with fail
 refine (rG.out _).mono ?_;rintro e w3 ⟨g1,g2,rfl,-,kp,-,-,ra⟩;replace kl:=ma kl ra;replace kt:=ma kt ra;replace kx:=ma kx ra;replace kf:=ma kf ra;replace ba:=pa ba ra;clear ra cl rG;have cl:=kl.cell;have ct:=kt.cell;have cx:=kx.cell;go_wp2_with fail
 refine (HCf.out _ ba).mono ?_;rintro e w4 ⟨vC,rfl,hC,ra⟩;replace kl:=ma kl ra;replace kx:=ma kx ra;replace kf:=ma kf ra;replace kp:=ma kp ra;replace ba:=pa ba ra;clear ra cl ct cx kt HCf;obtain ⟨AC,nC,cC,rfl⟩:=RSl.slc hC.here;have hnC:nC=n:=by rw [<- (Ki hC.here).1];exact mB.out
 have hCd:=(Ki hC.here).2.2.2;clear hC;subst hnC;have cl:=kl.cell;go_wp2_with fail
 refine (BG.out _).mono ?_;rintro e w5 ⟨rfl,ra⟩;have Tn:=ra;replace kl:=ma kl ra;replace kx:=ma kx ra;replace kf:=ma kf ra;replace kp:=ma kp ra;replace ba:=pa ba ra;clear ra cl BG;have cpi:=kp.cell i;rw [Pn _ zO,<- HX.out] at cpi;go_upto_region 7 with fail
 clear cpi kp;have Wq:=Sa ba ha;have Hh:=Sa ba hb;have yH:=Sa ba hq;have cf:=kf.cell;have lf:=kf.lt;refine Yc (yc) [3,7,11,12] [0,1,2,4,5,6,8,9,10,3,7,11,12,13] zK zK ?_;refine Td (ya) ?_;intro Wc Ca da;have Ma:=Lf Ca;replace kl:=ma kl Ma;replace kx:=ma kx Ma;replace kf:=ma kf Ma;replace ba:=pa ba Ma;replace Wq:=Sa Ma Wq;replace Hh:=Sa Ma Hh;replace yH:=Sa Ma yH;replace Tn:=pa Tn Ma;clear Ma;refine dc ?_;refine pd ya rfl rfl rfl ((HEv.out _ _ _ _ _ Wq).mono ?_);rintro e w6 ⟨rfl,Mc⟩;refine ⟨_,rfl,Mc,?_⟩;replace da:=zM ya da (Mc);refine zPU ?_;replace kl:=ma kl Mc;replace kx:=ma kx Mc;replace kf:=ma kf Mc;replace ba:=pa ba Mc;replace Hh:=Sa Mc Hh;replace yH:=Sa Mc yH;replace Tn:=pa Tn Mc;clear Mc;refine dc ?_;refine pd ya rfl rfl rfl ((HEv.out _ _ _ _ _ Hh).mono ?_);rintro e w7 ⟨rfl,Vb⟩;refine ⟨_,rfl,Vb,?_⟩;replace da:=zM ya da (Vb);refine zPU ?_;replace kl:=ma kl Vb;replace kx:=ma kx Vb;replace kf:=ma kf Vb;replace ba:=pa ba Vb;replace yH:=Sa Vb yH;replace Tn:=pa Tn Vb;clear Vb;refine dc ?_;refine pd ya rfl rfl rfl ((HEv.out _ _ _ _ _ yH).mono ?_);rintro e w8 ⟨rfl,ud⟩;refine ⟨_,rfl,ud,?_⟩;replace da:=zM ya da (ud);refine zPU ?_;replace kl:=ma kl ud;replace kx:=ma kx ud;replace kf:=ma kf ud;replace ba:=pa ba ud;replace Tn:=pa Tn ud;clear ud cf lf Wq Hh yH;rw [<- H00.out,<- H10.out,<- H20.out];refine dc ?_;refine Bd (ya) rfl rfl rfl ?_;go_simp;obtain ⟨kg,ja⟩:=zN w8 22 #[vd vq (C0 0:Int),vd vq (C1 0:Int),vd vq (C2 0:Int)];refine ⟨ja,?_⟩;have lf8:=kf.lt;have lx8:=kx.lt;replace kl:=ma kl ja;replace kx:=ma kx ja;replace kf:=ma kf ja;replace ba:=pa ba ja;have h48:=Tn.size;replace Tn:=pa Tn ja
 refine zPU ?_
 generalize w8.alloc _=w9 at kl kx kf kg ba Tn |-;obtain ⟨gl,jH⟩:=zEX (w8.1.size);rw [<- jH] at kg h48 lf8 lx8 |-;clear ja jH da Ca;have da:=(ya).refl w9;refine dc ?_;refine Ec ?_;clear da;have cf:=kf.cell;have lf:=kf.lt;have cl:=kl.cell;have ll:=kl.lt;go_upto_region 8 with fail
 refine Yc (yc) [5,6] [0,1,2,3,4,5,6,7,8,9,10,11] zK zK ?_;refine Td (ya) ?_;intro Wc Ca da;have Ma:=Lf Ca;replace kl:=ma kl Ma;replace kx:=ma kx Ma;replace kf:=ma kf Ma;replace kg:=ma kg Ma;replace ba:=pa ba Ma;replace Tn:=pa Tn Ma;clear Ma;refine dc ?_;refine pd ya rfl rfl rfl ((sG.out _).mono ?_);rintro e tu ⟨gp,rfl,-,kp,sg⟩;refine ⟨_,rfl,sg,?_⟩;replace da:=zM ya da (sg);refine zPU ?_;replace kl:=ma kl sg;replace kx:=ma kx sg;replace kf:=ma kf sg;replace kg:=ma kg sg;replace ba:=pa ba sg;replace Tn:=pa Tn sg;have lg10:=kg.lt;clear sg;have hp:=UL kp (fun k _=>Gu.out k) (by simp [maxLen];omega)
 refine dc ?_;refine pd ya rfl rfl rfl ((HIv.out _ _ _ _ hp).mono ?_);rintro e XF ⟨gw,rfl,YJ,kw,Vp⟩;refine ⟨_,rfl,Vp,?_⟩;replace da:=zM ya da (Vp);refine zPU ?_;replace kl:=ma kl Vp;replace kx:=ma kx Vp;replace kf:=ma kf Vp;replace kg:=ma kg Vp;replace ba:=pa ba Vp;replace Tn:=pa Tn Vp;have xw:gl<gw:=by omega
 clear Vp hp kp YJ lg10 sG HIv Gu;refine dc ?_;refine Ec ?_;clear cf lf cl ll da Ca;have H1:=zH (show (1:Int)=((P 0:Nat):Int) by rw [Wl.out];rfl)
 have H12:=zH (show (1:Int)=((P2 0:Nat):Int) by rw [rD.out];rfl)
 go_wp2_with fail
 go_loopw [25,97] (fun b y wr=>∃ j:Nat,j <= nC /\ y=vd vt j /\ b=vd vq (P j:Int) /\ Blk wr gl 22 #[vd vq (C0 j:Int),vd vq (C1 j:Int),vd vq (C2 0:Int)] /\ XF.grownBy wr (vD gl)) (fun _ y _=>nC-(intOf y).toNat)
 case atStart=>exact ⟨0,Rb _,rfl,by rw [<- H1.out],kg,Mg _ _⟩
 case round =>
  clear kg;obtain ⟨j,hj,rfl,rfl,kg,hg⟩:=hrel;have Vf:=kf.grown hg (fun e=>by have:=Pb e;omega)
  have kx1:=kx.grown hg (fun e=>by have:=Pb e;omega)
  have rp:=kl.grown hg (fun e=>by have:=Pb e;omega)
  have eO:=Qe ba hg;by_cases ta:j<nC
  ·have q1:(j:Int)<nC:=by omega
   have q2:(0:Int)<=j:=by omega
   have hjf:j<front.length:=by rw [<- oB.out];exact ta
   have hjc:j<Zg.length:=by rw [mB.out];exact ta
   obtain ⟨bf,qf,rfl,Bc,hcf⟩:=Ve Yl.out hjf;obtain ⟨bc,qc,A1,n1,c1,rfl,hbc,QJ,Pf⟩:=yp hCd hjc;have z1:n1=L.block:=by rw [(Mb Pf).1];exact Qy.out _ (pg hjc)
   subst z1;have bT:=zH (HDV.out j hjc);obtain ⟨rj,hrj⟩:=zEX (Zg[j]);rw [<- hrj] at Pf bT;obtain ⟨v,hv⟩:=zEX (f j);obtain ⟨p0,Zo⟩:=zEX (P j);obtain ⟨p1,Lc⟩:=zEX (P (j+1));obtain ⟨s0,Qt⟩:=zEX (C0 j);obtain ⟨t0,mK⟩:=zEX (C0 (j+1));obtain ⟨s1,Nc⟩:=zEX (C1 j);obtain ⟨t1,tA⟩:=zEX (C1 (j+1));obtain ⟨dj,hdj⟩:=zEX (dv j);obtain ⟨u0,uA⟩:=zEX (p1*v%L.p);obtain ⟨u1,xA⟩:=zEX (dj*v%L.p);have HP1j:=zH (oD.out j);have H0j:=zH (H0S.out j);have H1j:=zH (H1S.out j);rw [<- Zo,<- Lc] at HP1j;rw [<- Qt,<- mK,<- Lc,<- hv,<- uA] at H0j;rw [<- Nc,<- tA,<- hdj,<- hv,<- xA] at H1j;rw [<- hdj] at bT;rw [<- HFF.out,<- hv] at hcf;rw [<- Qt,<- Nc] at kg;rw [<- Zo];have HT:=zH (And.intro Lc (And.intro mK tA));have HMp:Hid (∀ w:vv,vA prog 168 #[vf #[vd vq L.p],vd vq p0,vd vq al] w fun e w'=>e=vn (vd vq p1) /\ vz w.1.size w w'):=zH (fun w=>by rw [HP1j.out];exact HM.out p0 al w)
   have HM0:Hid (∀ w:vv,vA prog 168 #[vf #[vd vq L.p],vd vq p1,vd vq v] w fun e w'=>e=vn (vd vq u0) /\ vz w.1.size w w'):=zH (fun w=>by rw [uA];exact HM.out p1 v w)
   have og:Hid (∀ w:vv,vA prog 168 #[vf #[vd vq L.p],vd vq dj,vd vq v] w fun e w'=>e=vn (vd vq u1) /\ vz w.1.size w w'):=zH (fun w=>by rw [xA];exact HM.out dj v w)
   have Hq:Hid (∀ w:vv,vA prog 226 #[vf #[vd vq L.p],vd vq s0,vd vq u0] w fun e w'=>e=vn (vd vq t0) /\ vz w.1.size w w'):=zH (fun w=>by rw [H0j.out];exact HS.out s0 u0 w)
   have ai:Hid (∀ w:vv,vA prog 226 #[vf #[vd vq L.p],vd vq s1,vd vq u1] w fun e w'=>e=vn (vd vq t1) /\ vz w.1.size w w'):=zH (fun w=>by rw [H1j.out];exact HS.out s1 u1 w)
   have HDt:Hid (∀ (B:Option vx) (w':vv),RWd w' [ve A1 L.block c1] rj -> RWd w' [ve B L.block L.block] W -> vA prog 258 #[vf #[vd vq L.p],ve A1 L.block c1,ve B L.block L.block] w' fun e w2=>e=vn (vd vq dj) /\ vz w'.1.size w' w2):=zH (fun B w' h1 h2=>by rw [bT.out];exact HD.out A1 B L.block c1 L.block L.block rj W w' h1 h2 rfl)
   have cfr:=(eO.cell (p:=⟨bf,qf+j,vB⟩) Bc).trans hcf;clear hrj hv Zo Lc Qt mK Nc tA hdj uA xA hcf;have cx:=kx1.cell;have cf:=Vf.cell;go_wp2_with fail
   refine (HMp.out _).mono ?_;rintro e wA ⟨rfl,ra⟩;replace Vf:=ma Vf ra;replace kg:=ma kg ra;replace hg:=Um hg ra hg.size;clear ra cx cf cfr kx1 rp eO;have cf:=Vf.cell;have lf:=Vf.lt;have cg:=kg.cell;have lg:=kg.lt;go_upto_region 14 with fail
   refine XC (yc) [8,9,11] [11] [0,1,2,3,4,5,6,7,8,9,10,11] zK zK ?_;refine aD (ya) ?_;intro Wc Ca da;have Ma:=Lf Ca;replace Vf:=ma Vf Ma;replace kg:=ma kg Ma;replace hg:=Um hg Ma hg.size;refine yi ?_;refine Ej (ya) rfl rfl rfl (fun _=>by go_simp <;> rfl) ((HM0.out _).mono ?_)
   rintro e wB ⟨rfl,Il⟩;refine ⟨_,rfl,fun _=>Il,?_⟩
   replace da:=zM ya da (Il);refine zPU ?_;replace Vf:=ma Vf Il;replace kg:=ma kg Il;replace hg:=Um hg Il hg.size;refine yi ?_;refine Ej (ya) rfl rfl rfl (fun _=>by go_simp <;> rfl) ((Hq.out _).mono ?_)
   rintro e wC ⟨rfl,It⟩;refine ⟨_,rfl,fun _=>It,?_⟩
   replace da:=zM ya da (It);refine zPU ?_;replace Vf:=ma Vf It;replace kg:=ma kg It;replace hg:=Um hg It hg.size;clear cf lf cg lg da Ma Il It Ca;have da:=(ya).refl wC;obtain ⟨cg2,fg2⟩:=kg.cells';refine yi ?_;refine Jk (ya) rfl rfl rfl ?_;go_simp;refine ⟨fun h=>Bool.noConfusion h,?_⟩
   have Wb:=dk (w:=wC) gl 0 (vd vq t0);replace kg:=kg.set_ 0 (vd vq t0);replace kg:Blk (wC.setCell ⟨gl,0,vB⟩ (vd vq t0)) gl 22 #[vd vq t0,vd vq s1,vd vq (C2 0:Int)]:=by simpa using kg
   replace Vf:=Vf.grown Wb (fun e=>by have:=Pb e;omega)
   replace hg:=RG hg Wb (fun _ e=>.inl e)
   clear cg2 fg2 Wb da;generalize wC.setCell _ _=wD at kg Vf hg |-;have da:=(ya).refl wD;refine yi ?_;refine YC ?_;clear da;have Ub:=Qe Tn hg;have kw1:=kw.grown hg (fun e=>by have:=Pb e;omega)
   have hw:=UL kw1 (fun k _=>HIX.out _ k) (by simp [maxLen];omega)
   rw [bt.out] at hw;have jK:=Sa Ub Pf;have ccr:=(Ub.cell (p:=⟨bc,qc+j,vB⟩) hbc).trans QJ;have lbc:bc<wD.1.size:=Be hbc Ub.size;have cf:=Vf.cell;have lf:=Vf.lt;have cg:=kg.cell;have lg:=kg.lt;clear Ub kw1;go_upto_region 15 with fail
   refine XC (yc) [12,14,15,17] [17] [0,1,2,3,4,5,6,7,8,9,10,11,13,12,14,15,16,17] zK zK ?_;refine aD (ya) ?_;intro Wc Ca da;have Ma:=Lf Ca;replace Vf:=ma Vf Ma;replace kg:=ma kg Ma;replace hw:=Sa Ma hw;replace jK:=Sa Ma jK;replace hg:=Um hg Ma hg.size;refine yi ?_;refine Ej (ya) rfl rfl rfl (fun _=>by go_simp <;> rfl) ((HDt.out _ _ jK hw).mono ?_)
   rintro e wE ⟨rfl,Xq⟩;refine ⟨_,rfl,fun _=>Xq,?_⟩
   replace da:=zM ya da (Xq);refine zPU ?_;replace Vf:=ma Vf Xq;replace kg:=ma kg Xq;replace hg:=Um hg Xq hg.size;refine yi ?_;refine Ej (ya) rfl rfl rfl (fun _=>by go_simp <;> rfl) ((og.out _).mono ?_)
   rintro e wF ⟨rfl,hbF⟩;refine ⟨_,rfl,fun _=>hbF,?_⟩
   replace da:=zM ya da (hbF);refine zPU ?_;replace Vf:=ma Vf hbF;replace kg:=ma kg hbF;replace hg:=Um hg hbF hg.size;refine yi ?_;refine Ej (ya) rfl rfl rfl (fun _=>by go_simp <;> rfl) ((ai.out _).mono ?_)
   rintro e wG ⟨rfl,hbG⟩;refine ⟨_,rfl,fun _=>hbG,?_⟩
   replace da:=zM ya da (hbG);refine zPU ?_;replace Vf:=ma Vf hbG;replace kg:=ma kg hbG;replace hg:=Um hg hbG hg.size;clear cf lf cg lg da Ma Xq hbF hbG Ca hw jK ccr lbc;have da:=(ya).refl wG;obtain ⟨cg2,fg2⟩:=kg.cells';refine yi ?_;refine Jk (ya) rfl rfl rfl ?_;go_simp;refine ⟨fun h=>Bool.noConfusion h,?_⟩
   have Wb:=dk (w:=wG) gl 1 (vd vq t1);replace kg:=kg.set_ 1 (vd vq t1);replace kg:Blk (wG.setCell ⟨gl,1,vB⟩ (vd vq t1)) gl 22 #[vd vq t0,vd vq t1,vd vq (C2 0:Int)]:=by simpa using kg
   replace hg:=RG hg Wb (fun _ e=>.inl e)
   clear cg2 fg2 Wb da Vf;generalize wG.setCell _ _=wH at kg hg |-;have da:=(ya).refl wH;refine yi ?_;refine YC ?_;clear da;go_wp2_with fail
   go_roundw
   case rel=>exact ⟨j+1,zO,by go_num,by rw [HT.out.1],by rw [<- HT.out.2.1,<- HT.out.2.2];exact kg,hg⟩
   case measure=>simp [intOf];omega
  ·obtain rfl:j=nC:=by omega
   have q1:¬((j:Int)<j):=by omega
   clear kf kx kl Tn hCd kw ba;have cl:=rp.cell;go_wp2_with fail
   refine (HSp.out _).mono ?_;rintro e wS ⟨⟨X1,X2,X3,c1,c2,c3,rfl,hX⟩,ra⟩;replace Vf:=ma Vf ra;replace kx1:=ma kx1 ra;replace kg:=ma kg ra;replace eO:=pa eO ra;have Uv:=zH hX;clear ra cl hX rp hg;go_wp2_with fail
   go_loopw [25,146] (fun b y wr=>∃ t:Nat,t <= L.b /\ y=vd vt t /\ b=vd vq (P2 t:Int) /\ Blk wr gl 22 #[vd vq (C0 j:Int),vd vq (C1 j:Int),vd vq (C2 t:Int)] /\ wS.grownBy wr (vD gl)) (fun _ y _=>L.b-(intOf y).toNat)
   case atStart=>exact ⟨0,Rb _,rfl,by rw [<- H12.out],kg,Mg _ _⟩
   case round =>
    clear kg;obtain ⟨t,ht,rfl,rfl,kg,hg⟩:=hrel;have gM:=Qe eO hg;by_cases ta:t<L.b
    ·have q2:(t:Int)<L.b:=by omega
     have q3:(0:Int)<=t:=by omega
     have hN4:=HN4.out;have hFN:=oB.out;obtain ⟨b1,Ik,rfl,Bc,yd⟩:=Ve Yl.out (show L.a+t<front.length by omega)
     obtain ⟨b2,q2',hA,-,Rf⟩:=Ve Yl.out (show L.a+L.b+t<front.length by omega)
     injection hA with hA;injection hA with xJ yJ hA3;subst xJ yJ
     obtain ⟨b3,q3',hA,-,uj⟩:=Ve Yl.out (show L.a+L.b+L.b+t<front.length by omega)
     injection hA with hA;injection hA with xJ yJ hA3;subst xJ yJ
     clear hN4 hFN;obtain ⟨rfl,rfl,rfl⟩:=Uv.out zO b1 Ik rfl;have w1c:=(gM.cell (p:=⟨b1,Ik+(L.a+t),vB⟩) Bc).trans yd;have w2c:=(gM.cell (p:=⟨b1,Ik+(L.a+L.b+t),vB⟩) Bc).trans Rf;have w3c:=(gM.cell (p:=⟨b1,Ik+(L.a+L.b+L.b+t),vB⟩) Bc).trans uj;rw [show Ik+(L.a+t)=Ik+L.a+t by omega] at w1c
     rw [show Ik+(L.a+L.b+t)=Ik+(L.a+L.b)+t by omega] at w2c
     rw [show Ik+(L.a+L.b+L.b+t)=Ik+(L.a+L.b+L.b)+t by omega] at w3c
     have lbf:b1<wr.1.size:=Be Bc gM.size;rw [<- HFF.out] at w1c w2c w3c;obtain ⟨x1,Zc⟩:=zEX (f (L.a+t));obtain ⟨x2,dh⟩:=zEX (f (L.a+L.b+t));obtain ⟨x3,Es⟩:=zEX (f (L.a+L.b+L.b+t));obtain ⟨p0,Zo⟩:=zEX (P2 t);obtain ⟨p1,Lc⟩:=zEX (P2 (t+1));obtain ⟨s0,Qt⟩:=zEX (C2 t);obtain ⟨t0,mK⟩:=zEX (C2 (t+1));obtain ⟨y1,ff⟩:=zEX (x1*x2%L.p);obtain ⟨y2,BA⟩:=zEX ((y1+Qf L.p x3)%L.p);obtain ⟨y3,hy3⟩:=zEX (p1*y2%L.p);have HR1t:=zH (sD.out t);have H2t:=zH (H2S.out t);rw [<- Zo,<- Lc] at HR1t;rw [<- Qt,<- mK,<- Lc,<- Zc,<- dh,<- Es,<- ff,<- BA,<- hy3] at H2t;rw [<- Zc] at w1c;rw [<- dh] at w2c;rw [<- Es] at w3c;rw [<- Qt] at kg;rw [<- Zo];have HT:=zH (And.intro Lc mK);have HMp:Hid (∀ w:vv,vA prog 168 #[vf #[vd vq L.p],vd vq p0,vd vq be] w fun e w'=>e=vn (vd vq p1) /\ vz w.1.size w w'):=zH (fun w=>by rw [HR1t.out];exact HM.out p0 be w)
     have og:Hid (∀ w:vv,vA prog 168 #[vf #[vd vq L.p],vd vq x1,vd vq x2] w fun e w'=>e=vn (vd vq y1) /\ vz w.1.size w w'):=zH (fun w=>by rw [ff];exact HM.out x1 x2 w)
     have ai:Hid (∀ w:vv,vA prog 226 #[vf #[vd vq L.p],vd vq y1,vd vq x3] w fun e w'=>e=vn (vd vq y2) /\ vz w.1.size w w'):=zH (fun w=>by rw [BA];exact HS.out y1 x3 w)
     have Zy:Hid (∀ w:vv,vA prog 168 #[vf #[vd vq L.p],vd vq p1,vd vq y2] w fun e w'=>e=vn (vd vq y3) /\ vz w.1.size w w'):=zH (fun w=>by rw [hy3];exact HM.out p1 y2 w)
     have Zs:Hid (∀ w:vv,vA prog 226 #[vf #[vd vq L.p],vd vq s0,vd vq y3] w fun e w'=>e=vn (vd vq t0) /\ vz w.1.size w w'):=zH (fun w=>by rw [H2t.out];exact HS.out s0 y3 w)
     clear Zc dh Es Zo Lc Qt mK ff BA hy3 yd Rf uj;have fp:=Vf.grown hg (fun e=>by have:=Pb e;omega)
     have yv:=kx1.grown hg (fun e=>by have:=Pb e;omega)
     have cx:=yv.cell;have cf:=fp.cell;go_wp2_with fail
     refine (HMp.out _).mono ?_;rintro e wA ⟨rfl,ra⟩;replace w1c:=(ra.cell (p:=⟨b1,Ik+L.a+t,vB⟩) lbf).trans w1c;replace w2c:=(ra.cell (p:=⟨b1,Ik+(L.a+L.b)+t,vB⟩) lbf).trans w2c;replace w3c:=(ra.cell (p:=⟨b1,Ik+(L.a+L.b+L.b)+t,vB⟩) lbf).trans w3c;replace lbf:=Be lbf ra.size;replace fp:=ma fp ra;replace kg:=ma kg ra;replace hg:=Um hg ra hg.size;clear ra cx cf yv gM;have cf:=fp.cell;have lf:=fp.lt;have cg:=kg.cell;have lg:=kg.lt;go_upto_region 23 with fail
     refine XC (yc) [17,22,23,24,26] [26] [0,1,2,3,4,5,6,7,8,9,10,11,12,13,14,15,16,18,19,20,21,17,22,23,24,25,26] zK zK ?_;refine aD (ya) ?_;intro Wc Ca da;have Ma:=Lf Ca;replace fp:=ma fp Ma;replace kg:=ma kg Ma;replace hg:=Um hg Ma hg.size;refine yi ?_;refine Ej (ya) rfl rfl rfl (fun _=>by go_simp <;> rfl) ((og.out _).mono ?_)
     rintro e wB ⟨rfl,Il⟩;refine ⟨_,rfl,fun _=>Il,?_⟩
     replace da:=zM ya da (Il);refine zPU ?_;replace fp:=ma fp Il;replace kg:=ma kg Il;replace hg:=Um hg Il hg.size;refine yi ?_;refine Ej (ya) rfl rfl rfl (fun _=>by go_simp <;> rfl) ((ai.out _).mono ?_)
     rintro e wC ⟨rfl,It⟩;refine ⟨_,rfl,fun _=>It,?_⟩
     replace da:=zM ya da (It);refine zPU ?_;replace fp:=ma fp It;replace kg:=ma kg It;replace hg:=Um hg It hg.size;refine yi ?_;refine Ej (ya) rfl rfl rfl (fun _=>by go_simp <;> rfl) ((Zy.out _).mono ?_)
     rintro e wD ⟨rfl,hbD⟩;refine ⟨_,rfl,fun _=>hbD,?_⟩
     replace da:=zM ya da (hbD);refine zPU ?_;replace fp:=ma fp hbD;replace kg:=ma kg hbD;replace hg:=Um hg hbD hg.size;refine yi ?_;refine Ej (ya) rfl rfl rfl (fun _=>by go_simp <;> rfl) ((Zs.out _).mono ?_)
     rintro e wE ⟨rfl,Xq⟩;refine ⟨_,rfl,fun _=>Xq,?_⟩
     replace da:=zM ya da (Xq);refine zPU ?_;replace fp:=ma fp Xq;replace kg:=ma kg Xq;replace hg:=Um hg Xq hg.size;clear cf lf cg lg da Ma Il It hbD Xq Ca w1c w2c w3c lbf;have da:=(ya).refl wE;obtain ⟨cg2,fg2⟩:=kg.cells';refine yi ?_;refine Jk (ya) rfl rfl rfl ?_;go_simp;refine ⟨fun h=>Bool.noConfusion h,?_⟩
     have Wb:=dk (w:=wE) gl 2 (vd vq t0);replace kg:=kg.set_ 2 (vd vq t0);replace kg:Blk (wE.setCell ⟨gl,2,vB⟩ (vd vq t0)) gl 22 #[vd vq (C0 j:Int),vd vq (C1 j:Int),vd vq t0]:=by simpa using kg
     replace hg:=RG hg Wb (fun _ e=>.inl e)
     clear cg2 fg2 Wb da fp;generalize wE.setCell _ _=wH at kg hg |-;have da:=(ya).refl wH;refine yi ?_;refine YC ?_;clear da;go_wp2_with fail
     go_roundw
     case rel=>exact ⟨t+1,zO,by go_num,by rw [HT.out.1],by rw [<- HT.out.2];exact kg,hg⟩
     case measure=>simp [intOf];omega
    ·obtain rfl:t=L.b:=by omega
     have q2:¬((L.b:Int)<L.b):=by omega
     have ho:=zE0 (l:=[C0 j,C1 j,C2 L.b]) kg (base:=w.1.size) zO (by simp [maxLen])
     go_wp2;go_ret
     exact ⟨_,rfl,ho,gM⟩
theorem zHf (A1 A2:Option vx) (n1 c1 n2 c2:Nat) (l1 l2:List Nat) (w:vv) (h1:RWd w [ve A1 n1 c1] l1) (h2:RWd w [ve A2 n2 c2] l2) :
  vA prog 198 #[ve A1 n1 c1,ve A2 n2 c2] w fun e w'=>e=vn (.bool (decide (l1=l2))) /\ vz w.1.size w w':=by
 obtain ⟨rfl,a1,a2,a3,r1⟩:=Mb h1;obtain ⟨rfl,b1,b2,b3,r2⟩:=Mb h2;have gm:=Mh a1 a2;have gm2:=Mh b1 b2;clear h1 h2 a1 a2 b1 b2 a3 b3;by_cases hn:l1.length=l2.length
 rotate_left
 ·have t1:((l1.length:Int)!=l2.length)=true:=by rw [Fh];omega
  have t2:((l1.length:Int)==l2.length)=false:=by rw [Je];omega
  have HF:=zH (show decide (l1=l2)=false from Ib fun h=>hn (by rw [h]))
  rw [HF.out];generalize l1.length=m1 at *;generalize l2.length=m2 at *;clear r1 r2 hn;go_enter func198,ntmps198
  go_wp2;go_ret
  exact ⟨rfl,Bb _ _⟩
 have t1:((l1.length:Int)!=l2.length)=false:=by rw [fw];omega
 have t2:((l1.length:Int)==l2.length)=true:=by rw [Qk];omega
 obtain ⟨n,Fg⟩:∃ n,l1.length=n:=⟨_,rfl⟩;have Tf:l2.length=n:=by omega
 rw [Fg] at r1;rw [Tf] at r2;rw [Fg,Tf] at t1 t2;rw [Fg] at gm;rw [Fg,Tf];obtain ⟨ans,ha⟩:=zEX (decide (l1=l2));rw [<- ha];have HA:=zH ha;have H1:=zH Fg;have H2:=zH Tf;clear hn Fg Tf gm2 ha;go_enter func198,ntmps198
 go_wp2_with fail
 go_loopw [13] (fun y wr=>∃ i:Nat,i <= n /\ y=vd vt i /\ Hid (l1.take i=l2.take i) /\ vz w.1.size w wr) (fun y _=>n-(intOf y).toNat)
 case atStart=>exact ⟨0,Rb _,rfl,rfl,Bb _ _⟩
 case round =>
  obtain ⟨i,hi,rfl,HT,Wa⟩:=hrel;by_cases ta:i<n
  ·have g1:(0:Int)<=i:=by omega
   have g2:(i:Int)<n:=by omega
   have q1:=r1.below Wa;have q2:=r2.below Wa;rw [<- H1.out] at q1;rw [<- H2.out] at q2;obtain ⟨x1,y1,rfl,v1,d1⟩:=Ve q1 (j:=i) (by rw [H1.out];exact ta)
   obtain ⟨x2,y2,rfl,v2,d2⟩:=Ve q2 (j:=i) (by rw [H2.out];exact ta)
   clear q1 q2;by_cases he:l1.getD i 0=l2.getD i 0
   ·have zx:=zH (zHi HT.out (by rw [H1.out];exact ta) (by rw [H2.out];exact ta) he)
    rw [<- he] at d2;generalize l1.getD i 0=z at *;have u1:((z:Int)!=z)=false:=by rw [fw]
    have u2:((z:Int)==z)=true:=by rw [Qk]
    clear he HT;go_wp2_with fail
    refine Oh (yc) (ya) [] [] [0,1,2,3,4,5,6,7,8] zK zK ?_;refine Ph (ya) ?_;intro Wc da;refine Hg ?_;refine ox rfl ?_;intro wd mf;replace da:=zM ya da mf;clear mf;go_wp2;replace Wa:=pa Wa.drew da
    go_roundw
    case rel=>exact ⟨i+1,zO,by go_num,zx.out,Wa⟩
    case measure=>simp [intOf];omega
   ·have HF:=zH (HA.out.trans (zHh he))
    generalize l1.getD i 0=z1 at *;generalize l2.getD i 0=z2 at *;have u1:((z1:Int)!=z2)=true:=by rw [Fh];omega
    have u2:((z1:Int)==z2)=false:=by rw [Je];omega
    clear he HT;go_wp2_with fail
    refine Oh (yc) (ya) [] [] [0,1,2,3,4,5,6,7,8] zK zK ?_;refine Ph (ya) ?_;intro Wc da;refine Hg ?_;refine ox rfl ?_;intro wd mf;replace da:=zM ya da mf;clear mf;go_wp2;go_ret
    exact ⟨by rw [HF.out];rfl,pa Wa.drew da⟩
  ·obtain rfl:i=n:=by omega
   have HF:=zH (HA.out.trans (Qb (by have:=HT.out;rwa [<- H1.out,List.take_length,H1.out,<- H2.out,List.take_length] at this)))
   go_wp2;go_ret
   exact ⟨by rw [HF.out];rfl,Wa⟩
def QN (L:Xa) (cs:List (List Nat)) (al be:Nat) (a b q:List Nat) (i:Int) (v:List Nat):Bool :=
 cE L a b q&&decide (0 <= i)&&decide (i<(L.n:Int))&&Hz v (L.a+L.b+L.b+L.b+3) L.p&&decide (jJ L cs al be a b q (Ni L.p (Vc L.p).1 L.n i.toNat) (v.take (L.a+L.b+L.b+L.b))=v.drop (L.a+L.b+L.b+L.b))
theorem zE6 (L:Xa) (pu Na al be:Nat) (vars i:Int) (A B1 B2 B3 F:Option vx) (R c m1 d1 m2 d2 m3 d3 n d:Nat) (rows:List Ya) (a b q v:List Nat) (w:vv)
  (hL:ed L) (hF:Px L pu vars rows) (hr:RSl 3 Ue w [ve A R c] rows) (hV:LD vars rows)
  (ha:RWd w [ve B1 m1 d1] a) (hb:RWd w [ve B2 m2 d2] b) (hq:RWd w [ve B3 m3 d3] q) (hv:RWd w [ve F n d] v) :
  vA prog 118 #[vf (Eb L),Kc L.p (pu:Int) vars (ve A R c),vf #[vd vq al,vd vq Na,vd vq be],ve B1 m1 d1,ve B2 m2 d2,ve B3 m3 d3,vd vt i,ve F n d] w fun e w'=>e=vn (.bool (QN L (Bl L pu Na rows) al be a b q i v)) /\ vz w.1.size w w':=by
 have Ew:=hL.a;have Fw:=hL.b;obtain ⟨T,hT⟩:=zEX (L.a+L.b+L.b+L.b);obtain ⟨hvn,hvd,yA,-,-⟩:=Mb hv;have gm:=Mh hvd yA;have BG:=zH (fun w=>by have:=UR L.p L.block L.queries L.k L.n L.secret L.rows L.a L.b L.b L.b w hL.a hL.b hL.b hL.b;rw [<- hT] at this;exact this)
 have Mk:=zH (fun w' (h:vz w.1.size w w')=>XZ L B1 B2 B3 m1 d1 m2 d2 m3 d3 a b q w' hL (Sa h ha) (Sa h hb) (Sa h hq) ⟨(Mb ha).1,(Mb hb).1,(Mb hq).1⟩)
 have Oy:=zH (fun w' (h:vz w.1.size w w')=>oQ L F n d v w' (Sa h hv))
 have HC:=zH (fun (w':vv) (h:vz w.1.size w w') (j:Nat) (hj:j<L.n) (hTn:T <= n)=>zE8 L pu Na al be vars A B1 B2 B3 F R c m1 d1 m2 d2 m3 d3 j T d rows a b q (v.take T) w' hL hF (jg Qg _ _ _ _ h hr) hV (Sa h ha) (Sa h hb) (Sa h hq) (uS (Sa h hv) hTn) hj (by rw [List.length_take,<- hT];omega))
 obtain ⟨CD,hCD⟩:∃ CD:Nat -> List Nat,CD=fun j=>jJ L (Bl L pu Na rows) al be a b q (Ni L.p (Vc L.p).1 L.n j) (v.take T):=⟨_,rfl⟩
 have HCD:=zH (show ∀ j,jJ L (Bl L pu Na rows) al be a b q (Ni L.p (Vc L.p).1 L.n j) (v.take T)=CD j from fun j=>by rw [hCD])
 have HCX:=zH (show ∀ j,(∀ y∈CD j,y<18446744073709551616) /\ (CD j).length=3 from fun j=>by
  rw [hCD];refine ⟨fun y hy=>?_,rfl⟩
  have hp:=tc hL.p;simp only [jJ,Ij,List.not_mem_nil,or_false] at hy;rcases hy with h | h | h <;> rw [h] <;> exact gg (gL zO _ _) hp.2)
 have HEq:=zH (fun (j:Nat) (A1:Option vx) (c1:Nat) (w':vv) (h:vz w.1.size w w') (hTn:T <= n) (h3:RWd w' [ve A1 3 c1] (CD j))=>zHf A1 (if d=T then F else Option.map (fun x=>x.add T) F) 3 c1 (n-T) (d-T) (CD j) (v.drop T) w' h3 (iP (Sa h hv) hTn))
 have HE:=zH (show QN L (Bl L pu Na rows) al be a b q i v=(cE L a b q&&decide (0 <= i)&&decide (i<(L.n:Int))&&(decide (v.length=T+3)&&v.all fun x=>decide (x<L.p))&&decide (CD i.toNat=v.drop T)) by rw [hCD,hT];rfl)
 obtain ⟨ans,ay⟩:=zEX (QN L (Bl L pu Na rows) al be a b q i v);rw [<- ay] at HE |-;obtain ⟨t,ht⟩:=zEX (T+3);have e1:(T:Int)+3=(t:Int):=by omega
 have e2:=Ud t;have HT:=zH ht;have HN:=zH hvn;generalize cE L a b q=b1 at *;generalize (v.all fun x=>decide (x<L.p))=b2 at *
 have gT:T <= 400000:=by omega
 have gd:n <= d:=hvd;clear Ew Fw hT hvn hvd yA hCD ay ht hL hF hr hV ha hb hq hv;unfold Eb Kc at *;obtain ⟨kl,kt,kx,ba,-⟩:=Tp w 121 25 161 #[vd vq L.p,vd vt L.block,vd vt L.queries,vd vt L.k,vd vt L.n,vd vt L.secret,vd vt L.rows,vd vt L.a,vd vt L.b,vd vt L.b,vd vt L.b] #[vd vq L.p,vd vt pu,vd vt vars,ve A R c] #[vd vq al,vd vq Na,vd vq be];go_enter func118,ntmps118
 go_upto_region 1 with fail
 generalize ((w.alloc _).alloc _).alloc _=w1 at kl kt kx ba |-;have cl:=kl.cell;go_wp2_with fail
 refine (BG.out _).mono ?_;rintro e w2 ⟨rfl,ra⟩;replace kl:=ma kl ra;replace kt:=ma kt ra;replace kx:=ma kx ra;replace ba:=pa ba ra;clear ra cl;have cl:=kl.cell;go_wp2_with fail
 refine (Mk.out _ ba).mono ?_;rintro e w3 ⟨rfl,ra⟩;replace kl:=ma kl ra;replace kt:=ma kt ra;replace kx:=ma kx ra;replace ba:=pa ba ra;clear ra cl;cases b1
 ·go_wp2
  go_ret
  exact ⟨by rw [HE.out];simp,ba⟩
 by_cases Zz:i<0
 ·have x1:decide (i<0)=true:=Qb Zz
  have HF:=zH (show ans=false by rw [HE.out,Ib (show ¬(0 <= i) by omega)];simp)
  clear HE;go_wp2;go_ret
  exact ⟨by rw [HF.out];rfl,ba⟩
 have x1:decide (i<0)=false:=Ib Zz;have cl:=kl.cell;by_cases hiN:(L.n:Int) <= i
 ·have x2:decide ((L.n:Int) <= i)=true:=Qb hiN
  have HF:=zH (show ans=false by rw [HE.out,Ib (show ¬(i<(L.n:Int)) by omega)];simp)
  clear HE;go_wp2;go_ret
  exact ⟨by rw [HF.out];rfl,ba⟩
 have x2:decide ((L.n:Int) <= i)=false:=Ib hiN;by_cases hlen:n=t
 rotate_left
 ·have x3:((n:Int)!=t)=true:=by rw [Fh];omega
  have HF:=zH (show ans=false by rw [HE.out,Ib (show ¬(v.length=T+3) by have:=HT.out;have:=HN.out;omega)];simp)
  clear HE hlen;go_wp2;go_ret
  exact ⟨by rw [HF.out];rfl,ba⟩
 have x3:((n:Int)!=t)=false:=by rw [fw];omega
 obtain ⟨j,rfl⟩:=Zl (show 0 <= i by omega)
 have EE:j<L.n:=by omega
 have Co:=zH (show ans=(b2&&decide (CD j=v.drop T)) by rw [HE.out,Qb (show 0 <= (j:Int) by omega),Qb (show (j:Int)<L.n by omega),Qb (show v.length=T+3 by have:=HT.out;have:=HN.out;omega)];simp)
 have hTn:T <= n:=by have:=HT.out;omega
 have y1:(0:Int)<=T:=by omega
 have y2:(T:Int)<=n:=by omega
 have y3:(T:Int)<=d:=by omega
 clear Zz hiN hlen HE;go_wp2_with fail
 refine (Oy.out _ ba).mono ?_;rintro e w4 ⟨rfl,ra⟩;replace kl:=ma kl ra;replace kt:=ma kt ra;replace kx:=ma kx ra;replace ba:=pa ba ra;clear ra cl;cases b2
 ·go_wp2
  go_ret
  exact ⟨by rw [Co.out];rfl,ba⟩
 have cl:=kl.cell;have ll:=kl.lt;have ct:=kt.cell;have lt:=kt.lt;have cx:=kx.cell;have lx:=kx.lt;go_upto_region 4 with fail
 refine Yc (yc) [10,14] [0,1,2,3,4,5,6,7,8,9,11,12,13,10,14,15] zK zK ?_;refine Td (ya) ?_;intro Wc Ca da;have Ma:=Lf Ca;replace ba:=pa ba Ma;clear Ma;refine dc ?_;refine pd ya rfl rfl rfl ((HC.out _ ba j EE hTn).mono ?_);rintro e w5 ⟨v5,rfl,o5,Lb⟩;refine ⟨_,rfl,Lb,?_⟩;replace da:=zM ya da (Lb);refine zPU ?_;rw [HCD.out] at o5;obtain ⟨A5,c5,rfl,-⟩:=mc o5;have h5:=Yf o5 (HCX.out j).1;replace ba:=pa ba Lb;clear Lb o5;refine dc ?_;refine pd ya rfl rfl rfl ((HEq.out j _ _ _ ba hTn h5).mono ?_);rintro e w6 ⟨rfl,Mc⟩;refine ⟨_,rfl,Mc,?_⟩;replace da:=zM ya da (Mc);refine zPU ?_;replace ba:=pa ba Mc;clear Mc h5;refine dc ?_;refine Ec ?_;generalize (if d=T then F else Option.map (fun x=>x.add T) F)=FX
 go_wp2;go_ret
 exact ⟨by rw [Co.out];rfl,ba⟩
def CS (L:Xa) (t:Nat) (a b q:List Nat):Bool:=cE L a b q&&((List.range L.block).all fun k=>decide (Re L.p q (Ni L.p 1 L.block k)=0))&&decide (tX L.p (fun k=>Re L.p b (Ni L.p 1 L.block k)) L.block=t)
theorem zBm {n k:Nat} {f:Nat -> Bool} (hk:k<n) (h:f k=false):(List.range n).all f=false:=by
 rw [Bool.eq_false_iff];intro hh;rw [Wg] at hh;rw [hh k (Lm.2 hk)] at h;cases h
theorem zBn {n:Nat} {f:Nat -> Bool} (h:∀ k,k<n -> f k=true):(List.range n).all f=true:=by
 rw [Wg];exact fun k hk=>h k (Lm.1 hk)
theorem zIx (p:Nat) (A:Option vx) (n c x:Nat) (l:List Nat) (w:vv) (hp:jc p=true) (hl:RWd w [ve A n c] l) :
  vA prog 194 #[fv p,ve A n c,vd vq x] w fun e w'=>e=vn (vd vq ((Re p l x:Nat):Int)) /\ vz w.1.size w w':=by
 rw [<- J1 (zQ (tc hp))];exact z7 p A n c x l w hp hl
theorem zFn (L:Xa) (pu Na al be:Nat) (vars:Int) (A B B1 B2 B3:Option vx) (R c d m1 d1 m2 d2 m3 d3:Nat) (rows:List Ya) (pub a b q:List Nat) (w:vv)
  (hL:ed L) (hF:Px L pu vars rows) (hr:RSl 3 Ue w [ve A R c] rows) (Ll:RWd w [ve B pu d] pub)
  (ha:RWd w [ve B1 m1 d1] a) (hb:RWd w [ve B2 m2 d2] b) (hq:RWd w [ve B3 m3 d3] q) :
  vA prog 117 #[vf (Eb L),Kc L.p (pu:Int) vars (ve A R c),ve B pu d,vf #[vd vq al,vd vq Na,vd vq be],ve B1 m1 d1,ve B2 m2 d2,ve B3 m3 d3] w fun e w'=>e=vn (.bool (CS L (gI L.p rows.length Na (1 :: pub) rows 3) a b q)) /\ vz w.1.size w w':=by
 have hp:=tc hL.p;have Mk:=zH (fun w' (h:vz w.1.size w w')=>XZ L B1 B2 B3 m1 d1 m2 d2 m3 d3 a b q w' hL (Sa h ha) (Sa h hb) (Sa h hq) ⟨(Mb ha).1,(Mb hb).1,(Mb hq).1⟩)
 have rG:=zH (fun w=>B7 L w hL)
 have HTg:=zH (fun w' (h:vz w.1.size w w')=>by have:=zFo L pu Na vars A B R c d rows pub w' hL hF (jg Qg _ _ _ _ h hr) (Sa h Ll);rw [zHM zO] at this;exact this)
 have HQ:=zH (fun x w' (h:vz w.1.size w w')=>zIx L.p B3 m3 d3 x q w' hL.p (Sa h hq))
 have HB:=zH (fun x w' (h:vz w.1.size w w')=>zIx L.p B2 m2 d2 x b w' hL.p (Sa h hb))
 have HA:=zH (fun a b w=>Su L.p a b w hL.p)
 have gB:=hL.b2;obtain ⟨t,ht⟩:=zEX (gI L.p rows.length Na (1 :: pub) rows 3);rw [<- ht] at HTg |-;obtain ⟨D,hD⟩:=zEX (Ni L.p 1 L.block);obtain ⟨Z,hZ⟩:∃ Z:Nat -> Nat,Z=fun k=>Re L.p q (D k):=⟨_,rfl⟩
 obtain ⟨S,hS⟩:∃ S:Nat -> Nat,S=tX L.p (fun k=>Re L.p b (D k)):=⟨_,rfl⟩
 obtain ⟨ans,ay⟩:=zEX (CS L t a b q);have HE:=zH (show ans=(cE L a b q&&((List.range L.block).all fun k=>decide (Z k=0))&&decide (S L.block=t)) by rw [ay,hS,hZ,hD];rfl)
 have HZ:=zH (show ∀ k,Re L.p q (D k)=Z k from fun k=>by rw [hZ])
 have Hq:=zH (show S 0=0 by rw [hS];rfl)
 have HS:=zH (show ∀ k,S (k+1)=(S k+Re L.p b (D k))%L.p from fun k=>by rw [hS];rfl)
 rw [<- ay];rw [<- hD] at rG;generalize cE L a b q=b1 at *;clear hp ht hD hZ hS ay hL hF hr Ll ha hb hq;unfold Eb Kc fv at *;obtain ⟨kl,kt,kx,ba,-⟩:=Tp w 121 25 161 #[vd vq L.p,vd vt L.block,vd vt L.queries,vd vt L.k,vd vt L.n,vd vt L.secret,vd vt L.rows,vd vt L.a,vd vt L.b,vd vt L.b,vd vt L.b] #[vd vq L.p,vd vt pu,vd vt vars,ve A R c] #[vd vq al,vd vq Na,vd vq be];go_enter func117,ntmps117
 go_upto_region 1 with fail
 generalize ((w.alloc _).alloc _).alloc _=w1 at kl kt kx ba |-;have cl:=kl.cell;go_wp2_with fail
 refine (Mk.out _ ba).mono ?_;rintro e w2 ⟨rfl,ra⟩;replace kl:=ma kl ra;replace kt:=ma kt ra;replace kx:=ma kx ra;replace ba:=pa ba ra;clear ra cl;cases b1
 ·have HF:=zH (show ans=false by rw [HE.out];simp)
  go_wp2;go_ret
  exact ⟨by rw [HF.out];rfl,ba⟩
 have cl:=kl.cell;go_upto_region 4 with fail
 obtain ⟨kf,ja⟩:=zN w2 250 #[vd vq L.p];replace kl:=ma kl ja;replace kt:=ma kt ja;replace kx:=ma kx ja;replace ba:=pa ba ja;generalize w2.alloc _=w3 at kl kt kx kf ba |-;generalize w2.1.size=gf at kf |-;clear ja cl;have cl:=kl.cell;go_wp2_with fail
 refine (rG.out _).mono ?_;rintro e w4 ⟨g1,g2,rfl,kp,-,-,-,ra⟩;replace kl:=ma kl ra;replace kt:=ma kt ra;replace kx:=ma kx ra;replace kf:=ma kf ra;replace ba:=pa ba ra;clear ra cl rG;go_wp2_with fail
 go_loopw [18,37] (fun y i wr=>∃ k:Nat,k <= L.block /\ i=vd vt k /\ y=vd vq (S k:Int) /\ Hid (∀ j,j<k -> Z j=0) /\ vz w4.1.size w4 wr) (fun _ i _=>L.block-(intOf i).toNat)
 case atStart=>exact ⟨0,Rb _,rfl,by rw [Hq.out];rfl,zH fun j h=>absurd h (Nat.not_lt_zero _),Bb _ _⟩
 case round =>
  obtain ⟨k,hk,rfl,rfl,HZs,hb⟩:=hrel;have Qw:=ma kf hb;have MH:=ma kl hb;have kt':=ma kt hb;have kx':=ma kx hb;have kp':=ma kp hb;replace ba:=pa ba hb;have cf:=Qw.cell;have lf:=Qw.lt;by_cases ta:k<L.block
  ·have q1:(k:Int)<L.block:=by omega
   have q2:(0:Int)<=k:=by omega
   have cp:=kp'.cell k;rw [Pn _ ta] at cp;have lp:=kp'.lt;obtain ⟨x,hx⟩:=zEX (D k);obtain ⟨y,hy⟩:=zEX (Re L.p b x);obtain ⟨z,hz⟩:=zEX (Z k);obtain ⟨s1,Nc⟩:=zEX (S (k+1));have jz:=zH (fun w' h=>by have:=HQ.out (D k) w' h;rw [HZ.out k,<- hz,<- hx] at this;exact this)
   have HB1:=zH (fun w' h=>by have:=HB.out x w' h;rw [<- hy] at this;exact this)
   have ie:=zH (fun w=>by have:=HA.out (S k) y w;rw [hy,hx,<- HS.out k,<- hx,<- hy,<- Nc] at this;exact this)
   have HH:=zH (And.intro hz Nc);rw [<- hx] at cp;clear hx hy hz Nc;generalize S k=sk at *;go_wp2_with fail
   refine (jz.out _ ba).mono ?_;rintro e w5 ⟨rfl,ra⟩;replace Qw:=Qw.below ra Qw.lt;replace ba:=pa ba ra;replace hb:=pa hb ra;clear ra cf lf cp lp;have cf:=Qw.cell;have lf:=Qw.lt;by_cases h0:z=0
   ·have q3:((z:Int) != 0)=false:=by rw [fw];omega
    have HZ1:=zH (show ∀ j,j<k+1 -> Z j=0 from fun j hj=>by
     by_cases e:j=k
     ·rw [e,<- HH.out.1];exact h0
     ·exact HZs.out j zO)
    clear h0;go_upto_region 11 with fail
    refine Yc (yc) [5,6] [0,1,2,3,4,5,6,7] zK zK ?_;refine Td (ya) ?_;intro Wc Ca da;have Ma:=Lf Ca;replace ba:=pa ba Ma;replace hb:=pa hb Ma;clear Ma;refine dc ?_;refine pd ya rfl rfl rfl ((HB1.out _ ba).mono ?_);rintro e w6 ⟨rfl,ra⟩;refine ⟨_,rfl,ra,?_⟩;replace da:=zM ya da (ra);refine zPU ?_;replace ba:=pa ba ra;replace hb:=pa hb ra;clear ra;refine dc ?_;refine pd ya rfl rfl rfl ((ie.out _).mono ?_);rintro e w7 ⟨rfl,ra⟩;refine ⟨_,rfl,ra,?_⟩;replace da:=zM ya da (ra);refine zPU ?_;replace ba:=pa ba ra;replace hb:=pa hb ra;clear ra;refine dc ?_;refine Ec ?_;clear da cf lf;go_wp2
    go_roundw
    case rel=>exact ⟨k+1,zO,by go_num,by rw [HH.out.2],HZ1,hb⟩
    case measure=>simp [intOf];omega
   ·have q3:((z:Int) != 0)=true:=by rw [Fh];omega
    have HF:=zH (show ans=false by rw [HE.out,zBm ta (Ib (show ¬Z k=0 by rw [<- HH.out.1];exact h0))];simp)
    clear h0;go_wp2;go_ret
    exact ⟨by rw [HF.out];rfl,ba⟩
  ·obtain rfl:k=L.block:=by omega
   have q1:¬((L.block:Int)<L.block):=by omega
   have Co:=zH (show ans=decide (S L.block=t) by rw [HE.out,zBn fun k hk=>Qb (HZs.out k hk)];simp)
   have cl:=MH.cell;have ct:=kt'.cell;have cx:=kx'.cell;generalize S L.block=s at *;go_wp2_with fail
   refine (HTg.out _ ba).mono ?_;rintro e w5 ⟨rfl,ra⟩;replace ba:=pa ba ra;clear ra cl ct cx;by_cases hs:s=t
   ·have q3:((s:Int)==t)=true:=by rw [Qk];omega
    have HF:=zH (show ans=true by rw [Co.out,Qb hs])
    clear hs Co;go_wp2;go_ret
    exact ⟨by rw [HF.out];rfl,ba⟩
   ·have q3:((s:Int)==t)=false:=by rw [Je];omega
    have HF:=zH (show ans=false by rw [Co.out,Ib hs])
    clear hs Co;go_wp2;go_ret
    exact ⟨by rw [HF.out];rfl,ba⟩
theorem B5 {p:Nat} {n:Int} {l:List (Int × Nat)} (h:Xi p n l=true) {i:Nat} (hi:i<l.length):Yt p n l i=false:=by
 unfold Xi at h;have h1:=Wg.1 h i (Lm.2 hi)
 simpa using h1
theorem eW {p:Nat} {n:Int} {l:List (Int × Nat)} (h:Xi p n l=true):∀ i,i<l.length -> (i:Int) <= (l.getD i (0,0)).1 /\ (l.getD i (0,0)).1<n /\ (l.getD i (0,0)).2<p
 | 0,hi=>by
  have h1:=B5 h hi;unfold Yt at h1;simp only [Bool.or_eq_false_iff,XB,Bool.and_eq_false_iff] at h1;omega
 | i+1,hi=>by
  have h1:=B5 h hi;have h2:=eW h i zO;unfold Yt at h1;simp only [Bool.or_eq_false_iff,XB,Bool.and_eq_false_iff,Nat.add_sub_cancel] at h1;omega
theorem fW {p:Nat} {n:Int} {l:List (Int × Nat)} (h:Xi p n l=true) (hn:0 <= n):(l.length:Int) <= n:=by
 by_cases hl:l.length=0
 ·omega
 ·have:=eW h (l.length-1) zO
  omega
theorem gW {p:Nat} {n:Int} {l:List (Int × Nat)} (h:Xi p n l=true):∀ t∈l,0 <= t.1 /\ t.1<n /\ t.2<p:=fun t ht=>by
 obtain ⟨i,hi,rfl⟩:=jt ht;have:=eW h i hi;rw [Gc,Dc hi] at this;simp only [Option.getD_some] at this;omega
theorem zAq {p:Nat} {pub vars:Int} {rows:List Ya} (h:Ad p pub vars rows=true):∀ r∈rows,Xi p vars r.a=true /\ Xi p vars r.b=true /\ Xi p vars r.c=true:=fun r hr=>by
 unfold Ad at h;rw [Pd] at h;have h1:=Wg.1 h.2 r hr;unfold xp at h1;rw [Pd,Pd] at h1;exact ⟨h1.1.1,h1.1.2,h1.2⟩
theorem XM {p:Nat} {pub vars:Int} {rows:List Ya} (h:Ad p pub vars rows=true):0 <= pub /\ pub<vars /\ vars <= 65536 /\ rows.length <= 16384:=by
 simp only [Ad,Pd,uo,XB] at h;omega
theorem zAr {p:Nat} {pub vars:Int} {rows:List Ya} (h:Ad p pub vars rows=true):lX rows:=fun r hr=>by
 have h1:=zAq h r hr;have h2:=XM h;have a1:=fW h1.1 zO;have a2:=fW h1.2.1 zO;have a3:=fW h1.2.2 zO;omega
theorem X4:∀ (rows:List Ya),(rows.flatMap EM).length=3*rows.length+2*eI rows
 | []=>rfl
 | r :: rows=>by
  have h1:=X4 rows;rw [List.flatMap_cons,Pp,h1];simp only [EM,GA,Cd,Pp,pk,Y4,eI,List.map_cons,List.sum_cons];simp
  omega
theorem dZ {p:Nat} {pub vars:Int} {rows:List Ya} (h:Ad p pub vars rows=true) (hs:DL rows):aB p pub vars rows where
 pl:=(tc (uP h)).2
 pubI:=by have:=XM h;omega
 varI:=by have:=XM h;omega
 n:=(XM h).2.2.2
 sides:=fun r hr k hk=>by
  have h1:=zAr h r hr;unfold Cd;split
  ·exact h1.1
  ·split
   ·exact h1.2.1
   ·exact h1.2.2
 terms:=fun r hr k hk t ht=>by
  have h1:=zAq h r hr;have h2:=XM h;have h3:=(tc (uP h)).2;unfold Cd at ht;split at ht
  ·have:=gW h1.1 t ht;omega
  ·split at ht
   ·have:=gW h1.2.1 t ht;omega
   ·have:=gW h1.2.2 t ht;omega
 len:=by
  have h1:=hs (zAr h);simp only [Rm,Pp,pk,List.length_nil,X4];omega
theorem boxes5 (w:vv) (t1 t2 t3 t4 t5:vy) (pc Hc Jd Bf Wh:Array vw) :
  Blk (((((w.alloc (.cells pc t1)).alloc (.cells Hc t2)).alloc (.cells Jd t3)).alloc (.cells Bf t4)).alloc (.cells Wh t5)) w.1.size t1 pc /\ Blk (((((w.alloc (.cells pc t1)).alloc (.cells Hc t2)).alloc (.cells Jd t3)).alloc (.cells Bf t4)).alloc (.cells Wh t5)) (w.1.size+1) t2 Hc /\ Blk (((((w.alloc (.cells pc t1)).alloc (.cells Hc t2)).alloc (.cells Jd t3)).alloc (.cells Bf t4)).alloc (.cells Wh t5)) (w.1.size+1+1) t3 Jd /\ Blk (((((w.alloc (.cells pc t1)).alloc (.cells Hc t2)).alloc (.cells Jd t3)).alloc (.cells Bf t4)).alloc (.cells Wh t5)) (w.1.size+1+1+1) t4 Bf /\ Blk (((((w.alloc (.cells pc t1)).alloc (.cells Hc t2)).alloc (.cells Jd t3)).alloc (.cells Bf t4)).alloc (.cells Wh t5)) (w.1.size+1+1+1+1) t5 Wh /\
   vz w.1.size w (((((w.alloc (.cells pc t1)).alloc (.cells Hc t2)).alloc (.cells Jd t3)).alloc (.cells Bf t4)).alloc (.cells Wh t5)) /\ (((((w.alloc (.cells pc t1)).alloc (.cells Hc t2)).alloc (.cells Jd t3)).alloc (.cells Bf t4)).alloc (.cells Wh t5)).1.size=w.1.size+5:=by
 obtain ⟨h1,h2,h3,h4,h5,h6⟩:=dJ w t1 t2 t3 t4 pc Hc Jd Bf;refine ⟨h1.alloc _,h2.alloc _,h3.alloc _,h4.alloc _,?_,h5.alloc zO _,zS⟩;have:=Blk.new ((((w.alloc (.cells pc t1)).alloc (.cells Hc t2)).alloc (.cells Jd t3)).alloc (.cells Bf t4)) t5 Wh;rw [h6] at this;exact this
theorem zGs (A:Option vx) (n c m:Nat) (l:List Nat) (w:vv) (hl:RWd w [ve A n c] l) (hn:n <= 100000) (hm:m <= 100000) :
  vA prog 110 #[ve A n c,vd vt m] w fun e w'=>∃ v,e=vn v /\ w'.ownsRow w.1.size 22 1 v (lh l m).length (Qa (lh l m)) /\ vz w.1.size w w':=by
 obtain ⟨rfl,h1,h2,ta,Ka⟩:=Mb hl;have ja:=zA w (.cells #[] 22);have HS:=zH (show ∀ k,l++List.replicate k 0++[0]=l++List.replicate (k+1) 0 from fun k=>by rw [Jx,List.replicate_succ'])
 have HP:=zH (show lh l m=l++List.replicate (m-l.length) 0 from rfl)
 rw [HP.out];obtain ⟨f,hf⟩:=zEX (fun k=>l++List.replicate k 0)
 have H0:=zH (show f 0=l by rw [hf];simp)
 have HF:=zH (show ∀ k,f k++[0]=f (k+1) from fun k=>by rw [hf];exact HS.out k)
 rw [show l++List.replicate (m-l.length) 0=f (m-l.length) by rw [hf]]
 clear HS HP hf ta h1 h2 hl;go_enter func110,ntmps110
 go_wp2_with (at_builtin;refine fe rfl _ _ rfl Ag rfl (ju w 22 zR) rfl (Ka.alloc _) (Gf l) zO zS ?_)
 intro v1 w1 oa Ja tb;have hB:=Ee (ju w 22 zR) Ja zS;replace hB:=ja.trans hB;obtain ⟨t,ht⟩:=zEX (l.length);have Jw:w1.ownsRow w.1.size 22 1 v1 t (Qa (f 0)):=by
  rw [H0.out,ht];simpa using oa
 have HT:=zH ht;clear Ja tb oa ja ht Ka;go_wp2_with fail
 go_loopw [5] (fun v wr=>∃ k s:Nat,Hid (s=t+k /\ (k=0 \/ s <= m)) /\ s <= 200000 /\ wr.ownsRow w.1.size 22 1 v s (Qa (f k)) /\ vz w.1.size w wr) (fun v _=>match v with | ve _ n _=>m-n | _=>0)
 case atStart=>exact ⟨0,t,zH ⟨rfl, .inl rfl⟩,by have:=HT.out;omega,Jw,hB⟩
 case round =>
  clear Jw hB;obtain ⟨k,s,HK,hs,oa,hb⟩:=hrel;obtain ⟨A1,c1,rfl,-⟩:=mc oa;by_cases ta:s<m
  ·have g1:(s:Int)<m:=by omega
   have Xe:=zH (HF.out k);go_wp2_with (at_builtin;refine fe rfl _ _ rfl Ag rfl (oa.alloc _) rfl (mh _ _ _) (Gf [0]) zO (by simp;have:=hb.size;omega) ?_)
   intro v' wn Va Ja tb;have ja:=zA wr (.cells #[vd vq (0:Int)] 22);have hB:=Ee (oa.alloc _) Ja (by simp;have:=hb.size;omega)
   replace hb:=(Pk hb ja hb.size).trans hB;replace oa:wn.ownsRow w.1.size 22 1 v' (s+1) (Qa (f (k+1))):=Ii (b:=[0]) Va Xe.out;clear Va Ja tb ja hB;obtain ⟨A2,c2,rfl,-⟩:=mc oa;go_wp2
   go_roundw
   case rel=>exact ⟨k+1,s+1,zH (zQ HK.out),zO,oa,hb⟩
   case measure=>simp;omega
  ·have g1:¬((s:Int)<m):=by omega
   have HE:=zH (show f k=f (m-l.length) by
    have h:=HK.out;have h2:=HT.out;rcases h.2 with h3 | h3
    ·rw [h3,show m-l.length=0 by omega]
    ·rw [show k=m-l.length by omega])
   rw [HE.out] at oa;have mz:=zH (show (f (m-l.length)).length=s by
    have:=oa.1
    simpa [Qa] using this)
   go_wp2;go_ret
   exact ⟨_,rfl,by rw [mz.out];exact oa,hb⟩
theorem zF7 (L:Xa) (pu Na al be:Nat) (vars:Int) (A AM D0 D1 D2 D3 D4:Option vx) (R c T cM n0 n1 n2 n3 n4 k0 k1 k2 k3 k4:Nat) (rows:List Ya) (m r:List (List Nat)) (co li qu:List Nat) (w:vv)
  (hL:ed L) (hF:Px L pu vars rows) (hr:RSl 3 Ue w [ve A R c] rows) (hV:LD vars rows)
  (hm:Ye w [ve AM T cM] m) (h0:Ye w [ve D0 n0 k0] r) (h1:RWd w [ve D1 n1 k1] co) (h2:RWd w [ve D2 n2 k2] li) (h3:RWd w [ve D3 n3 k3] qu)
  (jb:TP L m r) (QJ:co.length=L.k) (tw:li.length=L.k+L.block-2) (To:qu.length=L.block+2*L.queries-1) :
  vA prog 45 #[vf (Eb L),Kc L.p (pu:Int) vars (ve A R c),ve AM T cM,vf #[ve D0 n0 k0,ve D1 n1 k1,ve D2 n2 k2,ve D3 n3 k3,ve D4 n4 k4],vf #[vd vq al,vd vq Na,vd vq be]] w fun e w'=>∃ v1 v2 v3,e=vn (vf #[v1,v2,v3]) /\
   w'.ownsRow w.1.size 22 1 v1 (gQ L m r co al).length (Qa (gQ L m r co al)) /\ w'.ownsRow w.1.size 22 1 v2 (iQ L (Bl L pu Na rows) m r li).length (Qa (iQ L (Bl L pu Na rows) m r li)) /\ w'.ownsRow w.1.size 22 1 v3 (jQ L m r qu be).length (Qa (jQ L m r qu be)) /\ vz w.1.size w w':=by
 have Vm:=hL.b1;have Vn:=hL.b2;have Xm:=hL.q1;have Ot:=hL.q2;have hk:=hL.k;have Ew:=hL.a;have Fw:=hL.b;have zj:=jb.ml;have hTm:=(Ki hm).1;have e1:=(Mb h1).1;have e2:=(Mb h2).1;have e3:=(Mb h3).1;have sl:=fun A n c=>(⟨A,n,c,rfl⟩:slc (ve A n c))
 obtain ⟨t1,tA⟩:=zEX (L.k+L.block-1);obtain ⟨t2,EH⟩:=zEX (2*L.k-1);have HRo:=zH (fun w' (hb:vz w.1.size w w')=>zGC L D0 D1 D2 D3 D4 AM n0 n1 n2 n3 n4 T k0 k1 k2 k3 k4 cM m r w' hL (jg xC _ _ _ _ hb hm) (jg xC _ _ _ _ hb h0) jb.rl.symm jb.mr (fun x hx=>by have:=jb.rr x hx;omega) zO)
 have HLe:=zH (fun w=>zGk L t1 t2 w hL tA EH)
 have Bu:=zH (fun w=>D8 L (ve D0 n0 k0) (ve D1 n1 k1) (ve D2 n2 k2) (ve D3 n3 k3) (ve D4 n4 k4) w (sl _ _ _) (sl _ _ _) (sl _ _ _) (sl _ _ _) (sl _ _ _))
 have HA:=zH (fun A B n c m d a b w ha hb hn hm=>YK L.p A B n c m d a b w hL.p ha hb hn hm)
 have HP:=zH (fun A n c m l w hl hn hm=>zGs A n c m l w hl hn hm)
 have ij:=zH (fun w' (hb:vz w.1.size w w')=>N8 L (ve D0 n0 k0) (ve D1 n1 k1) (ve D3 n3 k3) (ve D4 n4 k4) D2 n2 k2 li w' hL (sl _ _ _) (sl _ _ _) (sl _ _ _) (sl _ _ _) (Sa hb h2) zO)
 have HW:=zH (fun w' (hb:vz w.1.size w w')=>zGL L pu Na vars A R c rows w' hL hF (jg Qg _ _ _ _ hb hr) hV)
 have jz:=zH (fun w' (hb:vz w.1.size w w')=>zGz L (ve D0 n0 k0) (ve D1 n1 k1) (ve D2 n2 k2) (ve D4 n4 k4) D3 n3 k3 qu w' hL (sl _ _ _) (sl _ _ _) (sl _ _ _) (sl _ _ _) (Sa hb h3) zO)
 obtain ⟨cs,Jl⟩:=zEX (Bl L pu Na rows);obtain ⟨rd,Ka⟩:=zEX (NC L m r);have Qz:∀ x∈cs,x.length=L.block:=by rw [Jl];exact fU
 have hwl:∀ x∈sn L.p cs,x.length <= L.block:=fun x hx=>by
  obtain ⟨i,hi,rfl⟩:=Ie.1 hx;rw [wtF,dw,Lx,JQ Qz (Lm.1 hi)];exact zR
 have hwn:(sn L.p cs).length=T:=by
  rw [sn,dw,Lx,Jl,eU];omega
 have af:∀ x∈rd,x.length=L.k:=by rw [Ka];exact zG3 hL jb
 have TE:rd.length=T:=by rw [Ka,aX];exact hTm
 rw [<- Jl] at HW |-;have Mv:=zH (show gQ L m r co al=lh (yg L.p co (zt L.p rd al T)) L.k by rw [Ka,<- hTm];rfl)
 have Co:=zH (show iQ L cs m r li=lh (yg L.p (au L li) (Fs L.p rd (sn L.p cs) T)) t1 by rw [Ka,<- hTm,tA];rfl)
 have HE3:=zH (show jQ L m r qu be=lh (yg L.p (qn L qu) (lu L.p L.a L.b rd be L.b)) t2 by rw [Ka,EH];rfl)
 rw [Mv.out,Co.out,HE3.out];have zB:=zH (show (List.range m.length).map (mu L m r)=rd by rw [Ka];rfl)
 rw [zB.out] at HRo;have Sh:=zH (show ∀ x∈rd,x.length <= 1000 from fun x hx=>by rw [af x hx];omega)
 have HWL:=zH (show ∀ x∈sn L.p cs,x.length <= 1000 from fun x hx=>by have:=hwl x hx;omega)
 have iB:=zH (fun A c w hr=>zF8 L A T c al rd w hL hr Sh.out)
 have Fo:=zH (fun A B c d w hr hs=>zGl L A B T c T d rd (sn L.p cs) w hL hr hs zR Sh.out HWL.out)
 have HQ2:=zH (fun A c w hr=>zGy L A T c be rd w hL hr Sh.out zO)
 have vG:=zH (And.intro TE hwn);have s1:=zH (show (zt L.p rd al T).length <= 1000 from dU (fun x hx=>Sh.out x hx) T)
 have s2:=zH (show (Fs L.p rd (sn L.p cs) T).length <= 2000 by have:=dW (p:=L.p) (fun x hx=>Sh.out x hx) (fun x hx=>HWL.out x hx) T;omega)
 have s3:=zH (show (lu L.p L.a L.b rd be L.b).length <= 2000 by have:=QW (p:=L.p) (a:=L.a) (b:=L.b) (be:=be) (fun x hx=>Sh.out x hx) L.b;omega)
 have s4:=zH (show (au L li).length <= 2000 by rw [au,pk];omega)
 have s5:=zH (show (qn L qu).length <= 2000 by rw [zF5 hL To,mS,dw,Lx];omega)
 have HMX:=zH (show n2+1=(au L li).length by rw [au,pk,<- e2])
 have ta:=(tc hL.p).2;have HMT:=zH (show ∀ x∈au L li,x<18446744073709551616 from fun x hx=>by
  rcases Ij.1 hx with h | h
  ·rw [h];exact gg (cW (zQ (tc hL.p)) _ _) ta
  ·exact (Mb h2).2.2.2.1 x h)
 have s6:n1 <= 1000:=by omega
 have fj:=zH (fun a b=>RB L.p a b)
 have HT4:=zH (show L.a+L.b+L.b+L.b=T by omega)
 have gk:L.k <= 1000:=by omega
 have gt1:t1 <= 1000:=by omega
 have gt2:t2 <= 1000:=by omega
 have HXA:=zH (show ∀ a b n,∀ x∈lh (yg L.p a b) n,x<18446744073709551616 from fun a b n=>YR zO fun x hx=>gg (IS (zQ (tc hL.p)) hx) ta)
 have Iu:=zH (HXA.out co (zt L.p rd al T) L.k);have ik:=zH (HXA.out (au L li) (Fs L.p rd (sn L.p cs) T) t1);have HX3:=zH (HXA.out (qn L qu) (lu L.p L.a L.b rd be L.b) t2);clear HXA;generalize Fs L.p rd (sn L.p cs) T=P2 at *;generalize zt L.p rd al T=P1 at *;generalize lu L.p L.a L.b rd be L.b=P3 at *;generalize au L li=M2 at *;generalize qn L qu=M3 at *;clear Vm Vn Xm Ot hk Ew Fw zj hTm e1 e2 e3 sl tA EH Jl Ka Qz hwl hwn af TE Mv Co HE3 zB ta hL hF hr hV hm h0 h2 h3 jb QJ tw To;unfold Eb Kc at *;obtain ⟨kl,kt,kc,kx,ka,ba,-⟩:=boxes5 w 38 25 41 32 116 #[vd vq L.p,vd vt L.block,vd vt L.queries,vd vt L.k,vd vt L.n,vd vt L.secret,vd vt L.rows,vd vt L.a,vd vt L.b,vd vt L.b,vd vt L.b] #[vd vq L.p,vd vt pu,vd vt vars,ve A R c] #[ve D0 n0 k0,ve D1 n1 k1,ve D2 n2 k2,ve D3 n3 k3,ve D4 n4 k4] #[vd vq al,vd vq Na,vd vq be] #[ve vB 0 0,ve vB 0 0,ve vB 0 0];go_enter func45,ntmps45
 go_upto_region 1 with fail
 generalize ((((w.alloc _).alloc _).alloc _).alloc _).alloc _=w1 at kl kt kc kx ka ba |-;have cl:=kl.cell;have cc:=kc.cell;go_wp2_with fail
 refine (HRo.out _ ba).mono ?_;rintro e w2 ⟨vR,rfl,hR,ra⟩;replace kl:=ma kl ra;replace kt:=ma kt ra;replace kc:=ma kc ra;replace kx:=ma kx ra;replace ka:=ma ka ra;replace ba:=pa ba ra;clear ra cl cc HRo;obtain ⟨AR,nR,cR,rfl⟩:=RSl.slc hR;have hnR:nR=T:=by rw [<- (Ki hR).1];exact vG.out.1
 subst hnR;have cl:=kl.cell;go_wp2_with fail
 refine (HLe.out _).mono ?_;rintro e w3 ⟨rfl,ra⟩;replace kl:=ma kl ra;replace kt:=ma kt ra;replace kc:=ma kc ra;replace kx:=ma kx ra;replace ka:=ma ka ra;replace ba:=pa ba ra;replace hR:=Fm ra hR;clear ra cl HLe;go_upto_region 3 with fail
 obtain ⟨kn,ja⟩:=zN w3 173 #[vd vt L.k,vd vt t1,vd vt t2];replace kl:=ma kl ja;replace kt:=ma kt ja;replace kc:=ma kc ja;replace kx:=ma kx ja;replace ka:=ma ka ja;replace ba:=pa ba ja;replace hR:=Fm ja hR;clear ja;generalize w3.alloc _=w4 at kl kt kc kx ka kn ba hR |-;generalize w3.1.size=gn at kn |-;have cl:=kl.cell;have ll:=kl.lt;have ct:=kt.cell;have lt:=kt.lt;have cc:=kc.cell;have lc:=kc.lt;have cx:=kx.cell;have lx:=kx.lt;have cn:=kn.cell;have ln:=kn.lt;refine XC (yc) [4,9,10,13,18,25,26,27,30,35,40,41,44,46] [46] [0,1,2,3,5,6,7,8,11,12,14,15,16,17,19,20,21,22,23,24,28,29,31,32,33,34,36,37,38,39,42,43,4,9,10,13,18,25,26,27,30,35,40,41,44,45,46] zK zK ?_;refine aD (ya) ?_;intro Wc Ca da;have Ma:=Lf Ca;replace ka:=ma ka Ma;replace ba:=pa ba Ma;replace hR:=Fm Ma hR;clear Ma;have Uu:=Sa ba h1;refine yi ?_;refine Ej (ya) rfl rfl rfl (fun _=>by go_simp <;> rfl) ((Bu.out _).mono ?_)
 rintro e w5 ⟨rfl,Lb⟩;refine ⟨_,rfl,fun _=>Lb,?_⟩
 replace da:=zM ya da (Lb);refine zPU ?_;replace ka:=ma ka Lb;replace ba:=pa ba Lb;replace hR:=Fm Lb hR;replace Uu:=Sa Lb Uu;clear Lb;refine yi ?_;refine Ej (ya) rfl rfl rfl (fun _=>by go_simp <;> rfl) ((iB.out _ _ _ hR).mono ?_)
 rintro e w6 ⟨v6,rfl,h6,Mc⟩;refine ⟨_,rfl,fun _=>Mc,?_⟩
 replace da:=zM ya da (Mc);refine zPU ?_;obtain ⟨A6,c6,rfl⟩:=Sg h6;replace ka:=ma ka Mc;replace ba:=pa ba Mc;replace hR:=Fm Mc hR;replace Uu:=Sa Mc Uu;clear Mc;refine yi ?_;refine Ej (ya) rfl rfl rfl (fun _=>by go_simp <;> rfl) ((HA.out _ _ _ _ _ _ _ _ _ Uu h6 zO (zQ s1.out)).mono ?_)
 rintro e w7 ⟨v7,rfl,h7,Vb⟩;refine ⟨_,rfl,fun _=>Vb,?_⟩
 replace da:=zM ya da (Vb);refine zPU ?_;obtain ⟨A7,c7,rfl⟩:=Sg h7;replace ka:=ma ka Vb;replace ba:=pa ba Vb;replace hR:=Fm Vb hR;clear Vb h6;refine yi ?_;refine Ej (ya) rfl rfl rfl (fun _=>by go_simp <;> rfl) ((HP.out _ _ _ L.k _ _ h7 (by have:=fj.out co P1;have:=s1.out;have:=(Mb Uu).1;omega) zO).mono ?_)
 rintro e w8 ⟨v8,rfl,o8,ud⟩;refine ⟨_,rfl,fun _=>ud,?_⟩
 replace da:=zM ya da (ud);refine zPU ?_;obtain ⟨A8,c8,rfl,-⟩:=mc o8;have hs8:=ba.size;have hk8:=ka.lt;replace o8:=Bh o8 hk8;replace ka:=ma ka ud;replace ba:=pa ba ud;replace hR:=Fm ud hR;clear ud h7 Uu;refine yi ?_;refine Ej (ya) rfl rfl rfl (fun _=>by go_simp <;> rfl) ((ij.out _ ba).mono ?_)
 rintro e w9 ⟨v9,rfl,o9,tg⟩;refine ⟨_,rfl,fun _=>tg,?_⟩
 replace da:=zM ya da (tg);refine zPU ?_;rw [HMX.out] at o9;obtain ⟨A9,c9,rfl,-⟩:=mc o9;have h9:=Yf o9 HMT.out;replace ka:=ma ka tg;replace ba:=pa ba tg;replace hR:=Fm tg hR;replace o8:=yb o8 tg zR;clear tg o9;refine yi ?_;refine Ej (ya) rfl rfl rfl (fun _=>by go_simp <;> rfl) ((HW.out _ ba).mono ?_)
 rintro e tu ⟨v10,rfl,h10,sg⟩;refine ⟨_,rfl,fun _=>sg,?_⟩
 replace da:=zM ya da (sg);refine zPU ?_;obtain ⟨A10,n10,c10,rfl⟩:=RSl.slc h10;have hn10:n10=nR:=by rw [<- (Ki h10).1];exact vG.out.2
 subst hn10;replace ka:=ma ka sg;replace ba:=pa ba sg;replace hR:=Fm sg hR;replace o8:=yb o8 sg zR;replace h9:=Sa sg h9;clear sg;refine yi ?_;refine Ej (ya) rfl rfl rfl (fun _=>by go_simp <;> rfl) ((Fo.out _ _ _ _ _ hR h10).mono ?_)
 rintro e XF ⟨v11,rfl,h11,Vp⟩;refine ⟨_,rfl,fun _=>Vp,?_⟩
 replace da:=zM ya da (Vp);refine zPU ?_;obtain ⟨A11,c11,rfl⟩:=Sg h11;replace ka:=ma ka Vp;replace ba:=pa ba Vp;replace hR:=Fm Vp hR;replace o8:=yb o8 Vp zR;replace h9:=Sa Vp h9;clear Vp h10;refine yi ?_;refine Ej (ya) rfl rfl rfl (fun _=>by go_simp <;> rfl) ((HA.out _ _ _ _ _ _ _ _ _ h9 h11 (zQ s4.out) (zQ s2.out)).mono ?_)
 rintro e kI ⟨v12,rfl,h12,Sn⟩;refine ⟨_,rfl,fun _=>Sn,?_⟩
 replace da:=zM ya da (Sn);refine zPU ?_;obtain ⟨A12,c12,rfl⟩:=Sg h12;replace ka:=ma ka Sn;replace ba:=pa ba Sn;replace hR:=Fm Sn hR;replace o8:=yb o8 Sn zR;clear Sn h9 h11;refine yi ?_;refine Ej (ya) rfl rfl rfl (fun _=>by go_simp <;> rfl) ((HP.out _ _ _ t1 _ _ h12 (by have:=fj.out M2 P2;have:=s2.out;have:=s4.out;omega) zO).mono ?_)
 rintro e w13 ⟨v13,rfl,Ir,LJ⟩;refine ⟨_,rfl,fun _=>LJ,?_⟩
 replace da:=zM ya da (LJ);refine zPU ?_;obtain ⟨A13,c13,rfl,-⟩:=mc Ir;have hs13:=ba.size;have hk13:=ka.lt;replace Ir:=Bh Ir hk13;replace ka:=ma ka LJ;replace ba:=pa ba LJ;replace hR:=Fm LJ hR;replace o8:=yb o8 LJ zR;clear LJ h12;refine yi ?_;refine Ej (ya) rfl rfl rfl (fun _=>by go_simp <;> rfl) ((jz.out _ ba).mono ?_)
 rintro e w14 ⟨v14,rfl,h14,Gl⟩;refine ⟨_,rfl,fun _=>Gl,?_⟩
 replace da:=zM ya da (Gl);refine zPU ?_;obtain ⟨A14,Ez,rfl⟩:=Sg h14;replace ka:=ma ka Gl;replace ba:=pa ba Gl;replace hR:=Fm Gl hR;replace o8:=yb o8 Gl zR;replace Ir:=yb Ir Gl zR;clear Gl;refine yi ?_;refine Ej (ya) rfl rfl rfl (fun _=>by go_simp <;> rfl) ((HQ2.out _ _ _ hR).mono ?_)
 rintro e w15 ⟨v15,rfl,h15,YG⟩;refine ⟨_,rfl,fun _=>YG,?_⟩
 replace da:=zM ya da (YG);refine zPU ?_;obtain ⟨A15,c15,rfl⟩:=Sg h15;replace ka:=ma ka YG;replace ba:=pa ba YG;replace o8:=yb o8 YG zR;replace Ir:=yb Ir YG zR;replace h14:=Sa YG h14;clear YG hR;refine yi ?_;refine Ej (ya) rfl rfl rfl (fun _=>by go_simp <;> rfl) ((HA.out _ _ _ _ _ _ _ _ _ h14 h15 (zQ s5.out) (zQ s3.out)).mono ?_)
 rintro e w16 ⟨v16,rfl,h16,Hl⟩;refine ⟨_,rfl,fun _=>Hl,?_⟩
 replace da:=zM ya da (Hl);refine zPU ?_;obtain ⟨A16,c16,rfl⟩:=Sg h16;replace ka:=ma ka Hl;replace ba:=pa ba Hl;replace o8:=yb o8 Hl zR;replace Ir:=yb Ir Hl zR;clear Hl h14 h15;refine yi ?_;refine Ej (ya) rfl rfl rfl (fun _=>by go_simp <;> rfl) ((HP.out _ _ _ t2 _ _ h16 (by have:=fj.out M3 P3;have:=s3.out;have:=s5.out;omega) zO).mono ?_)
 rintro e w17 ⟨v17,rfl,EF,MJ⟩;refine ⟨_,rfl,fun _=>MJ,?_⟩
 replace da:=zM ya da (MJ);refine zPU ?_;obtain ⟨A17,c17,rfl,-⟩:=mc EF;have hs17:=ba.size;have hk17:=ka.lt;replace EF:=Bh EF hk17;replace ka:=ma ka MJ;replace ba:=pa ba MJ;replace o8:=yb o8 MJ zR;replace Ir:=yb Ir MJ zR;clear MJ h16 cl ll ct lt cc lc cx lx cn ln da;have da:=(ya).refl w17;obtain ⟨ca,fa⟩:=ka.cells';refine yi ?_;refine Jk (ya) rfl rfl rfl ?_;go_simp;refine ⟨fun h=>Bool.noConfusion h,?_⟩
 have k3:=zp ka (ve A8 (lh (yg L.p co P1) L.k).length c8) (ve A13 (lh (yg L.p M2 P2) t1).length c13) (ve A17 (lh (yg L.p M3 P3) t2).length c17);have hg:=Cp (w:=w17) (g:=w.1.size+1+1+1+1) (ve A8 (lh (yg L.p co P1) L.k).length c8) (ve A13 (lh (yg L.p M2 P2) t1).length c13) (ve A17 (lh (yg L.p M3 P3) t2).length c17);have Ew:=ka.lt;replace ba:=Qe ba hg;replace o8:=Zi o8 hg zO;replace Ir:=Zi Ir hg zO;replace EF:=Zi EF hg zO;generalize ((vE _ _ _).setCell _ _).setCell _ _=wf at k3 ba o8 Ir EF |-;clear ca fa ka hg da;have da:=(ya).refl wf;refine yi ?_;refine YC ?_;replace o8:=Bh o8 (base':=w.1.size) zO;replace Ir:=Bh Ir (base':=w.1.size) zO;replace EF:=Bh EF (base':=w.1.size) zO;have c4:=k3.cell;go_wp2;exact Tc (v:=vf #[ve A8 (lh (yg L.p co P1) L.k).length c8,ve A13 (lh (yg L.p M2 P2) t1).length c13,ve A17 (lh (yg L.p M3 P3) t2).length c17]) (by simp [results,results45,go_sem,c4]) rfl ⟨_,_,_,rfl,o8,Ir,EF,ba⟩
end Go.Proofs.YtodmnanljoaocaaGreat
