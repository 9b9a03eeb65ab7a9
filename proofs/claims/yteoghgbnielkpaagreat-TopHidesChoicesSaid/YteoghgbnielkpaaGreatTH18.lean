/- A part of the proof. No condition. -/
import Derived.Test.YteoghgbnielkpaaGreatTH16
import Derived.Test.YteoghgbnielkpaaGreatTH17

set_option maxRecDepth 100000
set_option maxHeartbeats 8000000
set_option linter.unusedVariables false
set_option linter.unusedSimpArgs false
namespace Go.Proofs.YteoghgbnielkpaaGreat
open Go.RowKit Go.Maps
open Tryz
open Go renaming World->vw, Value->vx, Addr->vy, TypeId->vz, Calls->vB
open Go.Value renaming int->vd, slice->ve, agg->vf
open Go.IntKind renaming u64->vn, i64->vq
open Go.Ending renaming returned->vl
open Go.RowKit renaming Below->vA
open Go.World renaming setCell->vF
open Go.Act renaming put->vG
open Option renaming none->vD, some->vE
structure PvIn where
 L:Ra
 dd:Nat
 pub:Nat
 dg:Nat
 rows:List Ya
 ws:List Nat
 m:List (List Nat)
 crs:List (List Nat)
 l1:List Nat
 l2:List Nat
 l3:List Nat
 l4:List Nat
def PvIn.cols (x:PvIn):List (List Nat):=(List.range x.L.n).map fun i=>(List.range (x.m.length+3)).map (Hs x.L (yj x.L x.m x.crs x.l1 x.l2 x.l3) i)
def PvIn.pu (x:PvIn):List Nat:=(x.ws.drop 1).take x.pub
def PvIn.t1 (x:PvIn) (O:Ga):Tr:=qe O x.L x.dg x.pu
def PvIn.o2 (x:PvIn) (O:Ga):Ga:=iq x.dd (Pb (x.t1 O).O 16 (me x.cols x.l4)) (Tc (x.t1 O).O 16 (me x.cols x.l4))
def PvIn.tree (x:PvIn) (O:Ga):List (List Nat):=ff x.dd (Pb (x.t1 O).O 16 (me x.cols x.l4)) (Tc (x.t1 O).O 16 (me x.cols x.l4))
def PvIn.root (x:PvIn) (O:Ga):Nat:=Vo (x.tree O)
def PvIn.ch (x:PvIn) (O:Ga):ChR:=Si ⟨x.o2 O,(x.t1 O).st,0⟩ x.L.p (x.root O)
def PvIn.t2 (x:PvIn) (O:Ga):Tr:=te ⟨x.o2 O,(x.t1 O).st,0⟩ (x.root O)
def PvIn.code (x:PvIn) (al:Nat):List Nat:=(List.range x.L.k).map (oA x.L.p x.L.k al (fun k=>x.l1.getD k 0) (xx x.L x.m x.crs) x.m.length)
def PvIn.lin (x:PvIn) (rh:Nat):List Nat:=(List.range (x.L.k+x.L.block-1)).map (pA x.L.p (x.L.k+x.L.block-1) (fun k=>(bg x.L x.l2).getD k 0) (tB x.L (mv x.L x.pub rh x.rows) x.m x.crs) x.m.length)
def PvIn.quad (x:PvIn) (be:Nat):List Nat:=(List.range (2*x.L.k-1)).map (By x.L.p x.L.k (2*x.L.k-1) be (gg x.L.p x.L.block x.l3 x.l3.length) (yx x.L x.m x.crs) (VD x.L x.m x.crs) x.L.b)
def PvIn.all (x:PvIn) (O:Ga):List Nat:=x.code (x.ch O).al++x.lin (x.ch O).rh++x.quad (x.ch O).be
def PvIn.pos (x:PvIn) (O:Ga):List Nat:=Zk (x.t2 O) (x.all O) x.L.n x.L.queries
def PvIn.oF (x:PvIn) (O:Ga):Ga:=Cj (x.t2 O) (x.all O) x.L.queries
def PvIn.pr (x:PvIn) (O:Ga):ProofR:=⟨x.root O,x.code (x.ch O).al,x.lin (x.ch O).rh,x.quad (x.ch O).be,(x.pos O).map fun i=>x.cols.getD i [],(x.pos O).map fun i=>x.l4.getD i 0,(x.pos O).map fun i=>lh (x.tree O) i⟩
def Ud (O Z:Ga):Prop:=∀ lab el a,jk O lab el a -> jk Z lab el a
theorem Qg {O Y Z:Ga} (h:Ud O Y) (k:Ud Y Z):Ud O Z:=fun _ _ _ a=>k _ _ _ (h _ _ _ a)
theorem BA (O:Ga) (lab:Nat) (el:List Nat):Ud O (Dc O lab el):=fun _ _ _ h=>JW h lab el
theorem jK (O:Ga) (lab:Nat) (qs:List (List Nat)):Ud O (Pb O lab qs):=fun _ _ _ h=>WQ h lab qs
theorem s7:∀ (d:Nat) (O:Ga) (l:List Nat),Ud O (iq d O l)
 | 0,_,_=>fun _ _ _ h=>h
 | d+1,O,l=>Qg (jK O 17 (Vc l)) (s7 d _ _)
theorem FI {O Z:Ga} {lab:Nat} {el:List Nat} (h:Ud (Dc O lab el) Z):Pd Z lab el=Pd O lab el /\ Dc Z lab el=Z:=by
 by_cases he:Rc el=true
 ·have:=IW (h _ _ _ (kY O lab he))
  exact ⟨this.2.1,this.1⟩
 ·constructor
  ·unfold Pd
   rw [La he,La he]
  ·unfold Dc
   rw [La he]
theorem zU {lab:Nat}:∀ (qs:List (List Nat)) {O Z:Ga},Ud (Pb O lab qs) Z -> Pb Z lab qs=Z
 | [],_,_,_=>rfl
 | q :: qs,O,Z,h=>by
  have h1:Ud (Dc O lab q) Z:=Qg (jK (Dc O lab q) lab qs) h;show Pb (Dc Z lab q) lab qs=Z
  rw [(FI h1).2];exact zU qs (O:=Dc O lab q) h
theorem mM {O Z:Ga} {st ct tag:Nat} {l:List Nat} (h:Ud (Yg ⟨O,st,ct⟩ tag l).O Z):Yg ⟨Z,st,ct⟩ tag l=⟨Z,(Yg ⟨O,st,ct⟩ tag l).st,0⟩:=by
 have:=FI h;simp only [Yg] at *;rw [this.1,this.2]
theorem oM {O Z:Ga} {st ct:Nat} (h:Ud (Ic ⟨O,st,ct⟩).O Z):Ic ⟨Z,st,ct⟩=⟨Z,st,ct+1⟩:=by
 have:=FI h;simp only [Ic] at *;rw [this.2]
theorem zFW (O:Ga) (st root:Nat):Ud O (te ⟨O,st,0⟩ root).O:=by
 have h:∀ s:Tr,Ud s.O (Ic s).O:=fun s=>BA s.O 19 [s.st,s.ct]
 have h0:Ud O (Yg ⟨O,st,0⟩ 2 [root]).O:=BA O 18 [st,2,root];unfold te;exact Qg h0 (Qg (h _) (Qg (h _) (h _)))
theorem zFX (s:Tr) (all:List Nat) (q:Nat):Ud s.O (Cj s all q):=by
 have h0:Ud s.O (Yg s 3 all).O:=BA s.O 18 (s.st :: 3 :: all);unfold Cj;exact Qg h0 (jK _ _ _)
theorem V5 {O Z:Ga} {st root:Nat} (h:Ud (te ⟨O,st,0⟩ root).O Z):te ⟨Z,st,0⟩ root=⟨Z,(te ⟨O,st,0⟩ root).st,3⟩:=by
 obtain ⟨a,ha⟩:=zEX (Yg ⟨O,st,0⟩ 2 [root]);have hc:a.ct=0:=by rw [ha];rfl
 have e:te ⟨O,st,0⟩ root=Ic (Ic (Ic a)):=by rw [ha];rfl
 rw [e] at h |-;have h2:Ud (Ic (Ic a)).O Z:=Qg (BA _ _ _) h;have h1:Ud (Ic a).O Z:=Qg (BA _ _ _) h2;have h0:Ud a.O Z:=Qg (BA _ _ _) h1;show Ic (Ic (Ic (Yg ⟨Z,st,0⟩ 2 [root])))=_
 rw [mM (by rw [<- ha];exact h0),<- ha]
 have r1:Ic ⟨Z,a.st,0⟩=⟨Z,a.st,1⟩:=oM (O:=a.O) (by rw [<- hc];exact h1)
 have e1:(⟨(Ic a).O,a.st,1⟩:Tr)=Ic a:=by simp [Ic,hc]
 have r2:Ic ⟨Z,a.st,1⟩=⟨Z,a.st,2⟩:=oM (O:=(Ic a).O) (by rw [e1];exact h2)
 have e2:(⟨(Ic (Ic a)).O,a.st,2⟩:Tr)=Ic (Ic a):=by simp [Ic,hc]
 have r3:Ic ⟨Z,a.st,2⟩=⟨Z,a.st,3⟩:=oM (O:=(Ic (Ic a)).O) (by rw [e2];exact h)
 rw [r1,r2,r3]
 rfl
theorem zFh {O Z:Ga} {st ct q:Nat} {all:List Nat} (h:Ud (Cj ⟨O,st,ct⟩ all q) Z):Cj ⟨Z,st,ct⟩ all q=Z:=by
 have ha:Ud (Yg ⟨O,st,ct⟩ 3 all).O Z:=Qg (jK _ _ _) h;unfold Cj;rw [mM ha];exact zU _ h
theorem iV:∀ (d:Nat) (O:Ga) (l:List Nat),Wl O -> (∀ x∈l,x<Za) -> ∀ r∈ff d O l,∀ x∈r,x<Za
 | 0,_,l,_,hl=>fun r hr x hx=>by
  have e:r=l:=by simpa [ff] using hr
  subst e;exact hl x hx
 | d+1,O,l,hO,hl=>fun r hr x hx=>by
  rcases Xg.1 (show r∈l :: ff d (Pb O 17 (Vc l)) (Tc O 17 (Vc l)) from hr) with e | e
  ·subst e
   exact hl x hx
  ·exact iV d _ _ (bJ hO 17 _) (cJ hO 17 _) r e x hx
theorem lH {l:List Nat} (hl:∀ x∈l,x<Za) (i:Nat):l.getD i 0<Za:=by
 by_cases h:i<l.length
 ·exact hl _ (Js 0 h)
 ·rw [Jb,Xr (by omega)]
  decide
theorem IU {ls:List (List Nat)} (h:∀ r∈ls,∀ x∈r,x<Za) (k j:Nat):(ls.getD k []).getD j 0<Za:=by
 by_cases hk:k<ls.length
 ·exact lH (h _ (Js [] hk)) j
 ·have e:ls.getD k []=[]:=by rw [Jb,Xr (by omega)];rfl
  rw [e];show 0<Za
  decide
theorem kU {ls:List (List Nat)} (h:∀ r∈ls,∀ x∈r,x<Za) (i:Nat):∀ x∈lh ls i,x<Za:=by
 rw [YJ];intro x hx;obtain ⟨k,_,rfl⟩:=ld.1 hx;exact IU h _ _
theorem Y5 {ls:List (List Nat)} (h:∀ r∈ls,∀ x∈r,x<Za):Vo ls<Za:=by
 unfold Vo;cases ls with
 | nil=>decide
 | cons a r =>
  refine lH (h _ ?_) 0;rw [List.getLastD_cons];cases r with
  | nil=>exact .head _
  | cons b q=>rw [List.getLastD_eq_getLast?,List.getLast?_eq_some_getLast (List.cons_ne_nil b q)];exact .tail _ (List.getLast_mem _)
theorem E1:∀ (d:Nat) {O:Ga} {k:Nat} (l:List Nat),l.length=2^d -> Lc O k -> Lc (iq d O l) (k+2^d)
 | 0,_,_,_,_,h=>Ue h (by omega)
 | d+1,O,k,l,hl,h=>by
  have e:l.length / 2=2^d:=by rw [hl,Ig];omega
  have h1:=YC (lab:=17) (Vc l) h;rw [GJ,e] at h1;refine Ue (E1 d (Tc O 17 (Vc l)) (by rw [Xv,GJ,e]) h1) ?_
  rw [Ig];omega
theorem zDk {p:Nat} (h:Ib p=true):p <= Za:=by
 rcases Bt h with rfl | rfl | rfl | rfl | rfl | rfl | rfl <;> decide
theorem AU {O Z:Ga} {L:Ra} {dg:Nat} {l:List Nat} (h:Ud (qe O L dg l).O Z):qe Z L dg l=⟨Z,(qe O L dg l).st,0⟩:=mM h
theorem R6 (O:Ga) (st root:Nat):(te ⟨O,st,0⟩ root).ct=3:=rfl
theorem U5 {Z:Ga} {s:Tr} {all:List Nat} {q:Nat} (hc:s.ct=3) (h:Ud (Cj s all q) Z):Cj ⟨Z,s.st,3⟩ all q=Z:=by
 cases s
 simp only at hc;subst hc;exact zFh h
theorem A9 {O O2 Z:Ga} {L:Ra} {dg root q:Nat} {l all:List Nat} (h1:Ud (qe O L dg l).O Z) (h2:Ud (te ⟨O2,(qe O L dg l).st,0⟩ root).O Z) (h3:Ud (Cj (te ⟨O2,(qe O L dg l).st,0⟩ root) all q) Z) :
  Cj (te (qe Z L dg l) root) all q=Z:=by
 rw [AU h1,V5 h2];exact U5 (R6 _ _ _) h3
section
variable (x:PvIn) (O:Ga)
theorem PvIn.cols_len:x.cols.length=x.L.n:=by simp [PvIn.cols]
theorem PvIn.cols_row (l:List Nat) (h:l∈x.cols):l.length=x.m.length+3:=by
 obtain ⟨i,-,rfl⟩:=ld.1 h;simp
theorem PvIn.cols_els (hp:Ib x.L.p=true):∀ l∈x.cols,Rc l=true:=fun l h=>by
 obtain ⟨i,-,rfl⟩:=ld.1 h;unfold Rc;rw [Xd];intro y hy;obtain ⟨j,-,rfl⟩:=ld.1 hy;have h1:=DN (p:=x.L.p) (by have:=Nb hp;omega) x.L.n x.L.n.log2 ((yj x.L x.m x.crs x.l1 x.l2 x.l3).getD j []) (Mb x.L.p).1 i
 have h2:=zDk hp;exact yb (show Hs _ _ _ _<Za from Sd h1 h2)
theorem PvIn.sub1:Ud (x.t1 O).O (x.o2 O):=Qg (jK _ _ _) (s7 _ _ _)
theorem PvIn.sub2:Ud (x.o2 O) (x.t2 O).O:=zFW _ _ _
theorem PvIn.sub3:Ud (x.t2 O).O (x.oF O):=zFX _ _ _
theorem PvIn.again:Cj (te (qe (x.oF O) x.L x.dg x.pu) (x.root O)) (x.all O) x.L.queries=x.oF O :=
 A9 (O:=O) (O2:=x.o2 O) (Qg (x.sub1 O) (Qg (x.sub2 O) (x.sub3 O))) (x.sub3 O) fun _ _ _ h=>h
theorem PvIn.code_lt (hp:0<x.L.p) (h:∀ y∈x.l1,y<x.L.p) (al:Nat):∀ y∈x.code al,y<x.L.p:=fun y hy=>by
 obtain ⟨k,-,rfl⟩:=ld.1 hy;exact mP hp (fun k=>zv hp h k) _ _
theorem PvIn.lin_lt (hp:0<x.L.p) (h:∀ y∈x.l2,y<x.L.p) (rh:Nat):∀ y∈x.lin rh,y<x.L.p:=fun y hy=>by
 obtain ⟨k,-,rfl⟩:=ld.1 hy;refine nP hp (fun k=>?_) _ _
 cases k with
 | zero=>exact NL hp _ _
 | succ k=>exact zv hp h k
theorem PvIn.quad_lt (hp:0<x.L.p) (be:Nat):∀ y∈x.quad be,y<x.L.p:=fun y hy=>by
 obtain ⟨k,-,rfl⟩:=ld.1 hy;exact aM hp (fun k=>rD hp _ _ _) _ _
theorem PvIn.tree_lt (h:Wl (x.t1 O).O):∀ r∈x.tree O,∀ y∈r,y<Za:=iV _ _ _ (bJ h 16 _) (cJ h 16 _)
theorem PvIn.o2_le {k:Nat} (hn:x.L.n=2^x.dd) (h:Lc (x.t1 O).O k):Lc (x.o2 O) (k+2*x.L.n):=by
 have h1:=YC (lab:=16) (me x.cols x.l4) h;rw [MC,x.cols_len] at h1;have h2:=E1 x.dd (Tc (x.t1 O).O 16 (me x.cols x.l4)) (by rw [Xv,MC,x.cols_len,hn]) h1
 rw [<- hn] at h2;exact Ue h2 (by omega)
end
theorem zEH {w w7 w16 wr wf:vw} {F F4:Nat -> Prop} {gP N R:Nat} (hb:vA w.1.size w w7) (hF:∀ j,F j -> j<w.1.size) (m:Moved F F4 w7 w16) (hN5:N <= w16.1.size) (tu:w16.1.size <= N) (hgP:w7.1.size <= gP) (hgN:gP<N) (hR:w.1.size <= R) (hR7:R<w7.1.size)
  (tc:fo gP N w16 wr) (Ji:N <= wr.1.size) (Jv:∀ j,j≠R -> wf.1[j]?=wr.1[j]?) (hfs:wf.1.size=wr.1.size) (ho:wf.os=wr.os /\ wf.tape=wr.tape /\ wf.output=wr.output) (h16:∀ j,F4 j -> j<w16.1.size) (nP4:¬F4 gP) :
  (∀ j,F4 j -> wf.1[j]?=w16.1[j]?) /\ w16.1.size <= wf.1.size /\ Moved F F4 w wf /\ ∀ u,Wi (fun b=>w.1.size <= b /\ b<wf.1.size /\ ¬F4 b) wf u ->
   (∀ j,w.1.size <= j -> j<N -> j≠gP -> j≠R -> ¬F4 j -> u.1[j]?=w16.1[j]?) /\ (∀ j,N <= j -> j<wr.1.size -> u.1[j]?=wr.1[j]?) /\ (∀ j,R<j -> j<w7.1.size -> u.1[j]?=w7.1[j]?) /\ w7.1.size <= u.1.size:=by
 have s1:=hb.size;have s2:=m.size;have hA:∀ j,j<N -> j≠gP -> j≠R -> wf.1[j]?=w16.1[j]?:=fun j h1 h2 h3=>(Jv j h3).trans (tc.2.2.2.2 j h1 h2)
 have hB7:∀ j,j<w7.1.size -> ¬F j -> j≠R -> wf.1[j]?=w7.1[j]?:=fun j h1 h2 h3=>(hA j (by omega) (by omega) h3).trans (m.block j h1 h2)
 refine ⟨fun j hj=>hA j (by have:=h16 j hj;omega) (fun e=>nP4 (e ▸ hj)) (fun e=>?_),by omega,⟨ho.1.trans (tc.1.trans (m.os.trans hb.os)),ho.2.1.trans (tc.2.1.trans (m.tape.trans hb.tape)),ho.2.2.trans (tc.2.2.1.trans (m.output.trans hb.output)),by omega,fun j h1 h2=>(hB7 j (by omega) h2 (by omega)).trans (hb.block j h1),fun j hj=>(m.foot j hj).imp id fun h=>by omega⟩,fun u a=>⟨fun j h1 h2 h3 h4 h5=>(a.block j ⟨h1,by omega,h5⟩ (by omega)).trans (hA j h2 h3 h4),fun j h1 h2=>(a.block j ⟨by omega,by omega,fun e=>by have:=h16 j e;omega⟩ (by omega)).trans (Jv j (by omega)),fun j h1 h2=>?_,by have:=a.size;omega⟩⟩
 ·rcases m.foot j hj with h | h
  ·have:=hF j h;omega
  ·omega
 ·refine (a.block j ⟨by omega,by omega,fun e=>?_⟩ (by omega)).trans (hB7 j h2 (fun e=>by have:=hF j e;omega) (by omega))
  rcases m.foot j e with h | h
  ·have:=hF j h;omega
  ·omega
theorem zCQ {i Q:Nat} (h:i<Q):Q-(intOf (vd vq ((i+1:Nat):Int))).toNat<Q-(intOf (vd vq i)).toNat:=by
 simp only [intOf,Lk];omega
theorem eK (g:Nat):∀ (xs:List vx) (k:Nat) (w:vw),(Wn w g xs k).1.size=w.1.size /\ (Wn w g xs k).os=w.os /\ (Wn w g xs k).tape=w.tape /\ (Wn w g xs k).output=w.output
 | [],_,_=>⟨rfl,rfl,rfl,rfl⟩
 | x :: xs,k,w=>by
  have h:=eK g xs (k+1) (w.setCell ⟨g,k,vD⟩ x);exact ⟨h.1.trans (by simp [vF]),h.2.1.trans rfl,h.2.2.1.trans rfl,h.2.2.2.trans rfl⟩
theorem store7 {w:vw} {g:Nat} {t:vz} {y0 y1 y2 y3 y4 y5 y6:vx} (k:Blk w g t #[y0,y1,y2,y3,y4,y5,y6]) (x0 x1 x2 x3 x4 x5 x6:vx):∃ wf,(((((((w.setCell ⟨g,0,vD⟩ x0).setCell ⟨g,1,vD⟩ x1).setCell ⟨g,2,vD⟩ x2).setCell ⟨g,3,vD⟩ x3).setCell ⟨g,4,vD⟩ x4).setCell ⟨g,5,vD⟩ x5).setCell ⟨g,6,vD⟩ x6)=wf /\ Blk wf g t #[x0,x1,x2,x3,x4,x5,x6] /\ (∀ j,j≠g -> wf.1[j]?=w.1[j]?) /\ wf.1.size=w.1.size /\ wf.os=w.os /\ wf.tape=w.tape /\ wf.output=w.output :=
 ⟨_,rfl,FF [x0,x1,x2,x3,x4,x5,x6] k rfl,fun _ hj=>fD (fun e=>hj e) [x0,x1,x2,x3,x4,x5,x6] 0 w,eK g [x0,x1,x2,x3,x4,x5,x6] 0 w⟩
theorem zEI {w7 w16 wr u:vw} {F4:Nat -> Prop} {gP N R B0 B6 B13 B15 i k1 k2 k3:Nat} {x:PvIn} {O:Ga} {cd ln qd pos:List Nat} {tr:List (List Nat)} {P1 P2 P3 Ac As Ap:Option vy} {p1 p2 p3 ca cs cp:Nat} {xs:Nat -> vx} {nn:Nat -> Nat} {vs:Nat -> List vx}
  (hU:∀ j,B0 <= j -> j<N -> j≠gP -> j≠R -> ¬F4 j -> u.1[j]?=w16.1[j]?) (hV:∀ j,N <= j -> j<wr.1.size -> u.1[j]?=wr.1[j]?) (hW:∀ j,R<j -> j<w7.1.size -> u.1[j]?=w7.1[j]?) (hus:w7.1.size <= u.1.size)
  (b0:B0 <= B13) (b1:R<B13) (b2:gP<B13) (b3:B15 <= N) (b4:R<B6) (b5:B6 <= w7.1.size) (b6:w7.1.size <= N) (n1:∀ b,B13 <= b -> b<B15 -> ¬F4 b)
  (o1:w16.ownsRow B13 22 1 (ve P1 k1 p1) k1 (Ia cd)) (o2:w16.ownsRow B13 22 1 (ve P2 k2 p2) k2 (Ia ln)) (o3:w16.ownsRow B13 22 1 (ve P3 k3 p3) k3 (Ia qd))
  (l1:(∀ b,(ve P1 k1 p1).ownBlock=vE b -> B13 <= b /\ b<B15) /\ (∀ b,(ve P2 k2 p2).ownBlock=vE b -> B13 <= b /\ b<B15) /\ ∀ b,(ve P3 k3 p3).ownBlock=vE b -> B13 <= b /\ b<B15)
  (c1:∀ y∈cd,y<18446744073709551616) (c2:∀ y∈ln,y<18446744073709551616) (c3:∀ y∈qd,y<18446744073709551616) (Gv:cd=x.code (x.ch O).al) (zg:ln=x.lin (x.ch O).rh) (hqd:qd=x.quad (x.ch O).be)
  (Bd:OwnF N wr (i+3) tyF xs nn vs) (Kc:InvP pos x.cols x.l4 (fun z=>lh tr z) x.dd B6 w7 i xs nn vs) (Pe:pos.length=i) (Kl:pos=x.pos O) (Yz:tr=x.tree O) (e0:xs 0=ve Ac i ca) (e1:xs 1=ve As i cs) (e2:xs 2=ve Ap i cp)
  (sC:x.root O<Za) (Xz:Rc x.l4=true) (jy:∀ r∈x.tree O,∀ y∈r,y<Za) :
  Gj u (x.pr O) ⟨P1,k1,p1,P2,k2,p2,P3,k3,p3,Ac,i,ca,As,i,cs,Ap,i,cp⟩:=by
 have MS:OwnF N u (i+3) tyF xs nn vs:=⟨fun j hj=>qi (Bd.own j hj) fun b hb=>hV b ((Bd.own j hj).lt b hb).1 ((Bd.own j hj).lt b hb).2,Bd.apart⟩
 have htk:pos.take i=pos:=List.take_of_length_le (by omega)
 refine ⟨zq sC,?_,?_,?_,?_,?_,?_⟩
 ·show RWd u [ve P1 k1 p1] (x.code (x.ch O).al)
  rw [<- Gv];exact Om (qi o1 fun b hb=>by have h1:=l1.1 b hb;exact hU b (by omega) (by omega) (by omega) (by omega) (n1 b h1.1 h1.2)) c1
 ·show RWd u [ve P2 k2 p2] (x.lin (x.ch O).rh)
  rw [<- zg];exact Om (qi o2 fun b hb=>by have h1:=l1.2.1 b hb;exact hU b (by omega) (by omega) (by omega) (by omega) (n1 b h1.1 h1.2)) c2
 ·show RWd u [ve P3 k3 p3] (x.quad (x.ch O).be)
  rw [<- hqd];exact Om (qi o3 fun b hb=>by have h1:=l1.2.2 b hb;exact hU b (by omega) (by omega) (by omega) (by omega) (n1 b h1.1 h1.2)) c3
 ·show RSl 1 RWd u [ve Ac i ca] ((x.pos O).map fun k=>x.cols.getD k [])
  rw [<- Kl,<- e0];have hc:=Kc.c;rw [htk] at hc;exact (zDm hc hus (fun b h1 h2=>hW b (by omega) h2) (MS.own 0 (by omega)) b6 b5).here
 ·show RWd u [ve As i cs] ((x.pos O).map fun k=>x.l4.getD k 0)
  rw [<- Kl];have ho:=MS.own 1 (by omega)
  have hs:=Kc.s;rw [htk] at hs;rw [e1,Kc.n1,hs] at ho;exact Om ho fun y hy=>by
   obtain ⟨k,-,rfl⟩:=ld.1 hy;exact zq (lH (fun y hy=>of_decide_eq_true (Xd.1 Xz y hy)) k)
 ·show RSl 1 RWd u [ve Ap i cp] ((x.pos O).map fun k=>lh (x.tree O) k)
  rw [<- Kl,<- Yz,<- e2];exact zEe (pf:=fun z=>lh tr z) MS Kc.p Kc.r Pe fun z y hy=>zq (kU (by rw [Yz];exact jy) z y hy)
structure StB (g:Nat) (w wf:vw):Prop where
 os:wf.os=w.os
 tape:wf.tape=w.tape
 output:wf.output=w.output
 size:wf.1.size=w.1.size
 far:∀ j,j≠g -> wf.1[j]?=w.1[j]?
section
variable {g:Nat} {w wf:vw}
theorem VU (g:Nat) (xs:List vx) (w:vw):StB g w (Wn w g xs 0) :=
 ⟨(eK g xs 0 w).2.1,(eK g xs 0 w).2.2.1,(eK g xs 0 w).2.2.2,(eK g xs 0 w).1,fun _ hj=>fD hj xs 0 w⟩
theorem StB.blk (h:StB g w wf) {b:Nat} {t:vz} {cs:Array vx} (k:Blk w b t cs) (hb:b≠g):Blk wf b t cs:=(h.far b hb).trans k
theorem StB.below (h:StB g w wf) {w0:vw} {N:Nat} (k:vA N w0 w) (hN:N <= g):vA N w0 wf :=
 ⟨h.os.trans k.os,h.tape.trans k.tape,h.output.trans k.output,jb k.size (Nat.le_of_eq h.size.symm),fun b hb=>(h.far b (by omega)).trans (k.block b hb)⟩
theorem StB.agr (h:StB g w wf) {K:Nat -> Prop} (hK:¬K g):Wi K w wf:=⟨h.os,h.tape,h.output,Nat.le_of_eq h.size.symm,fun b hb _=>h.far b fun e=>hK (e ▸ hb)⟩
theorem StB.hd (h:StB g w wf) {K:Nat -> Prop} {Q:vw -> Prop} (k:Hd K w Q) (hK:¬K g):Hd K wf Q:=Td k (h.agr hK)
theorem StB.own (h:StB g w wf) {base n size:Nat} {e:vz} {x:vx} {xs:List vx} (k:w.ownsRow base e size x n xs) (hg:∀ b,x.ownBlock=vE b -> b≠g):wf.ownsRow base e size x n xs:=qi k fun b hb=>h.far b (hg b hb)
theorem StB.trans {v:vw} (h:StB g w wf) (k:StB g wf v):StB g w v:=⟨k.os.trans h.os,k.tape.trans h.tape,k.output.trans h.output,k.size.trans h.size,fun j hj=>(k.far j hj).trans (h.far j hj)⟩
theorem Z6 (g i:Nat) (v:vx):StB g w (w.setCell ⟨g,i,vD⟩ v):=⟨rfl,rfl,rfl,by simp [vF],fun j hj=>Uf w ⟨g,i,vD⟩ v j hj⟩
end
theorem zFU {w:vw} {g:Nat} {t:vz} {y0 y1 y2 y3 y4 y5 y6:vx} (k:Blk w g t #[y0,y1,y2,y3,y4,y5,y6]) (x0 x1 x2 x3 x4 x5 x6:vx):∃ wf,(((((((w).setCell ⟨g,0,vD⟩ x0).setCell ⟨g,1,vD⟩ x1).setCell ⟨g,2,vD⟩ x2).setCell ⟨g,3,vD⟩ x3).setCell ⟨g,4,vD⟩ x4).setCell ⟨g,5,vD⟩ x5).setCell ⟨g,6,vD⟩ x6=wf /\ Blk wf g t #[x0,x1,x2,x3,x4,x5,x6] /\ StB g w wf :=
 ⟨_,rfl,FF [x0,x1,x2,x3,x4,x5,x6] k rfl,VU g [x0,x1,x2,x3,x4,x5,x6] w⟩
theorem store3 {w:vw} {g:Nat} {t:vz} {y0 y1 y2:vx} (k:Blk w g t #[y0,y1,y2]) (x0 x1 x2:vx):∃ wf,(((w).setCell ⟨g,0,vD⟩ x0).setCell ⟨g,1,vD⟩ x1).setCell ⟨g,2,vD⟩ x2=wf /\ Blk wf g t #[x0,x1,x2] /\ StB g w wf :=
 ⟨_,rfl,FF [x0,x1,x2] k rfl,VU g [x0,x1,x2] w⟩
structure PvIn.Good (x:PvIn):Prop where
 L:Rb x.L
 n:x.L.n=2^x.dd
 dd:x.dd <= 10
 ms:Zt x.L x.m x.crs
 c1:x.l1.length=x.L.k /\ ∀ y∈x.l1,y<x.L.p
 c2:x.l2.length=x.L.k+x.L.block-2 /\ ∀ y∈x.l2,y<x.L.p
 c3:x.l3.length=x.L.block+2*x.L.queries-1 /\ ∀ y∈x.l3,y<x.L.p
 c4:x.l4.length=x.L.n /\ Rc x.l4=true
section
variable {x:PvIn}
theorem PvIn.ref_code (h:x.Good) (al:Nat):oz x.L x.m x.crs x.l1 al=x.code al:=(bX h.L h.ms h.c1.1 h.c1.2 al).symm
theorem PvIn.coef (h:x.Good) (rh:Nat):mv x.L x.pub rh x.rows=Xh x.L x.pub rh x.rows:=dX (by have:=Nb h.L.p;omega) _ _ _
theorem PvIn.coef_len (h:x.Good) (rh:Nat):(Xh x.L x.pub rh x.rows).length=x.m.length:=(cX _ _ _ _).trans h.ms.ml.symm
theorem PvIn.ref_lin (h:x.Good) (rh:Nat):tx x.L (Xh x.L x.pub rh x.rows) x.m x.crs x.l2=x.lin rh:=by
 unfold PvIn.lin;rw [PvIn.coef h];exact (oZ h.L h.ms (fun _ hr=>mN _ hr) (PvIn.coef_len h rh) h.c2.1 h.c2.2).symm
theorem PvIn.ref_quad (h:x.Good) (be:Nat):ux x.L x.m x.crs x.l3 be=x.quad be:=(E5 h.L h.ms h.c3.1 be).symm
end
theorem zDI {w:vw} {base g:Nat} {l:List Nat} (k:Blk w g 22 (Ia l).toArray) (hb:base <= g) (hn:l.length <= maxLen):w.ownsRow base 22 1 (ve (vE ⟨g,0,vD⟩) l.length l.length) l.length (Ia l):=by
 have e:(Ia l).toArray=Oa l.length (fun k=>l.getD k 0):=by rw [wv,AP l _ rfl]
 rw [e] at k;have:=Y1 k hb hn;rw [AP l _ rfl] at this;exact this
theorem zDO (L:Ra) (pu Ka al be:Nat) (vars:Int) (A B1 B2 B3 F:Option vy) (R c m1 d1 m2 d2 m3 d3 i n d:Nat) (rows:List Ya) (a b q front:List Nat) (w:vw)
  (hL:Rb L) (hF:cu L pu vars rows) (hr:RSl 3 oe w [ve A R c] rows) (hV:ox vars rows)
  (ha:RWd w [ve B1 m1 d1] a) (hb:RWd w [ve B2 m2 d2] b) (hq:RWd w [ve B3 m3 d3] q) (hf:RWd w [ve F n d] front) (hi:i<L.n) (hn:front.length=L.a+L.b+L.b+L.b) :
  vB prog 253 #[vf (Db L),sc L.p (pu:Int) vars (ve A R c),vf #[vd vn al,vd vn Ka,vd vn be],ve B1 m1 d1,ve B2 m2 d2,ve B3 m3 d3,vd vq i,ve F n d] w fun e w'=>∃ v,e=vl v /\ w'.ownsRow w.1.size 22 1 v 3 (Ia (uz L (Xh L pu Ka rows) al be a b q (qh L.p (Mb L.p).1 L.n i) front)) /\ vA w.1.size w w':=by
 obtain ⟨Ed,uc⟩:=Nb hL.p;have Vs:=hL.a;have Qq:=hL.b;have Wd:=hL.n2;have Ca:=hL.b1;have Aa:=hL.b2;obtain ⟨hlen,j0,hj0⟩:=oy hL;have Tk:L.block=2^L.block.log2:=by rw [hj0,Nat.log2_two_pow]
 obtain ⟨hfn,hfc,tc,-,hrf⟩:=Qb hf;obtain ⟨x,hx⟩:=zEX (qh L.p (Mb L.p).1 L.n i);rw [<- hx];have sp:=zH (fun w=>by have:=AI L.p L.block L.queries L.k L.n L.secret L.rows L.a L.b L.b L.b w hL.a hL.b hL.b hL.b;rw [<- hn,<- hfn] at this;exact this)
 have HPt:=zH (fun w=>Y3 L w hL)
 have iG:=zH (fun w' (hb:vA w.1.size w w')=>E3 L pu Ka vars A R c rows w' hL hF (Dg Bg _ _ _ _ hb hr) hV)
 have HEv:Hid (∀ (A:Option vy) (n c:Nat) (l:List Nat) (w:vw),RWd w [ve A n c] l -> vB prog 249 #[fv L.p,ve A n c,vd vn x] w fun e w'=>e=vl (vd vn ((Xc L.p l x:Nat):Int)) /\ vA w.1.size w w'):=zH (fun A n c l w hl=>by rw [<- xY (by omega)];exact Q3 L.p A n c x l w hL.p hl)
 have GD:=zH (fun w=>OR L.p x L.block w hL.p (by omega))
 have HIv:=zH (fun A c l w hl=>UP L.p A L.block c L.block.log2 l w hL.p hl hlen Tk)
 have HM:=zH (fun a b w=>Gq L.p a b w hL.p)
 have HS:=zH (fun a b w=>kL L.p a b w hL.p)
 have HD:=zH (fun A B n c m d a b w ha hb hnm=>zBd L.p A B n c m d a b w hL.p ha hb hnm)
 have HSp:=zH (show ∀ (w:vw),vB prog 295 #[vf (Db L),ve F n d] w fun e w'=>(∃ X1 X2 X3 c1 c2 c3,e=vl (.tuple #[ve F L.a d,ve X1 L.b c1,ve X2 L.b c2,ve X3 L.b c3]) /\ (0<L.b -> ∀ g o,F=vE ⟨g,o,vD⟩ -> X1=vE ⟨g,o+L.a,vD⟩ /\ X2=vE ⟨g,o+(L.a+L.b),vD⟩ /\ X3=vE ⟨g,o+(L.a+L.b+L.b),vD⟩)) /\ vA w.1.size w w' from fun w=>by
  have hs:=zFS L F n d L.a (L.a+L.b) (L.a+L.b+L.b) w hL rfl rfl rfl (by omega) hfc tc
  have a1:L.a+L.b-L.a=L.b:=by omega
  have a2:L.a+L.b+L.b-(L.a+L.b)=L.b:=by omega
  have a3:n-(L.a+L.b+L.b)=L.b:=by omega
  unfold xz at hs;rw [a1,a2,a3] at hs;refine hs.mono ?_;rintro e w' ⟨rfl,hb⟩;refine ⟨⟨_,_,_,_,_,_,rfl,fun h g o e=>?_⟩,hb⟩
  subst e;refine ⟨?_,?_,?_⟩
  ·rw [La (by omega)]
   show vE ((⟨g,o,vD⟩:vy).add L.a)=_
   rw [pn]
  ·rw [La (by omega)]
   show vE ((⟨g,o,vD⟩:vy).add (L.a+L.b))=_
   rw [pn]
  ·rw [La (by omega)]
   show vE ((⟨g,o,vD⟩:vy).add (L.a+L.b+L.b))=_
   rw [pn])
 obtain ⟨Zg,TB⟩:=zEX (mv L pu Ka rows);have Gv:Zg=Xh L pu Ka rows:=by rw [TB];exact dX (by omega) pu Ka rows
 have Mh:Zg.length=n:=by rw [Gv,cX];omega
 have Hv:∀ r∈Zg,r.length=L.block:=by rw [Gv];exact mN
 obtain ⟨f,hff⟩:∃ f:Nat -> Nat,f=fun k=>front.getD k 0:=⟨_,rfl⟩
 obtain ⟨W,hW⟩:=zEX (PI L x);obtain ⟨dv,Cm⟩:∃ dv:Nat -> Nat,dv=fun j=>nu L.p (Zg.getD j []) W L.block:=⟨_,rfl⟩
 obtain ⟨C0,hC0⟩:=zEX (dE L.p al f (Xc L.p a x));obtain ⟨C1,oE⟩:=zEX (eE L.p dv f (Xc L.p b x));obtain ⟨C2,pE⟩:=zEX (jv L.p L.a L.b be f (Xc L.p q x));have hE:=zAC hL Hv al be a b q x hn (by omega)
 rw [<- Gv,<- hE,<- hfn];have HE:=zH (show [dE L.p al (fun k=>front.getD k 0) (Xc L.p a x) n,eE L.p (fun j=>nu L.p (Zg.getD j []) (PI L x) L.block) (fun k=>front.getD k 0) (Xc L.p b x) n,jv L.p L.a L.b be (fun k=>front.getD k 0) (Xc L.p q x) L.b]=[C0 n,C1 n,C2 L.b] by rw [hC0,oE,pE,Cm,hW,hff])
 rw [HE.out];obtain ⟨P,hP⟩:=zEX (Eg L.p al);obtain ⟨P2,Bv⟩:=zEX (Eg L.p be);have H00:=zH (show C0 0=Xc L.p a x by rw [hC0];rfl)
 have H10:=zH (show C1 0=Xc L.p b x by rw [oE];rfl)
 have H20:=zH (show C2 0=Xc L.p q x by rw [pE];rfl)
 have H0S:=zH (show ∀ j,C0 (j+1)=(C0 j+Rf L.p (P (j+1)*f j%L.p))%L.p from fun j=>by rw [hC0,hP];rfl)
 have H1S:=zH (show ∀ j,C1 (j+1)=(C1 j+Rf L.p (dv j*f j%L.p))%L.p from fun j=>by rw [oE];rfl)
 have H2S:=zH (show ∀ j,C2 (j+1)=(C2 j+Rf L.p (P2 (j+1)*((f (L.a+j)*f (L.a+L.b+j)%L.p+Rf L.p (f (L.a+L.b+L.b+j)))%L.p)%L.p))%L.p from fun j=>by rw [pE,Bv];rfl)
 have Tw:=zH (show P 0=1 by rw [hP];rfl)
 have Qr:=zH (show ∀ i,P (i+1)=P i*al%L.p from fun i=>by rw [hP];rfl)
 have Wy:=zH (show P2 0=1 by rw [Bv];rfl)
 have Di:=zH (show ∀ i,P2 (i+1)=P2 i*be%L.p from fun i=>by rw [Bv];rfl)
 have HDV:=zH (show ∀ j (h:j<Zg.length),dv j=nu L.p Zg[j] W L.block from fun j h=>by rw [Cm,<- gS h])
 have HWW:=zH (show (List.range L.block).map (Im L.p L.block L.block.log2 ((List.range L.block).map fun i=>x^i%L.p))=W from hW.symm)
 have HFF:=zH (show ∀ k,f k=front.getD k 0 from fun k=>by rw [hff])
 have Oy:=zH Mh;have HCR:=zH Hv;have Rr:=zH (show ∀ i,x^i%L.p<18446744073709551616 from fun i=>Eh (ic _ (by omega)) uc)
 have HIX:=zH (show ∀ l k,Im L.p L.block L.block.log2 l k<18446744073709551616 from fun l k=>Eh (ic _ (by omega)) uc)
 have HX:=zH hx;have HN4:=zH (show n=L.a+L.b+L.b+L.b by omega)
 have HFN:=zH hfn;have pY:=TB;rw [<- pY] at iG;have gi0:(0:Int)<=i:=by omega
 have gi1:(i:Int)<L.n:=by omega
 have gi2:¬((i:Int)<0):=by omega
 have gi3:¬((L.n:Int)<=i):=by omega
 have gi4:decide ((i:Int)<0)=false:=xb gi2;have gi5:decide ((L.n:Int)<=i)=false:=xb gi3;have d0:((n:Int)!=n)=false:=by simp
 have gn:n <= 400000:=by omega
 have gB:L.block <= 256:=Aa;have gB1:2 <= L.block:=Ca;have gNN:(L.n:Int) <= 1024:=by omega
 have glb:L.b <= 100000:=Qq;have Ut:=zH (by rw [hfn] at hrf;exact hrf:Rd w 1 F front.length (Ia front))
 clear Ed uc Vs Qq Wd Ca Aa hlen hj0 Tk hfn hfc tc hrf hx TB pY Gv Mh Hv hff hW Cm hC0 oE pE hE hP Bv hL hF hr hV hi hn HE;unfold Db sc fv at *;obtain ⟨kl,kt,kx,da,-⟩:=rn w 101 25 136 #[vd vn L.p,vd vq L.block,vd vq L.queries,vd vq L.k,vd vq L.n,vd vq L.secret,vd vq L.rows,vd vq L.a,vd vq L.b,vd vq L.b,vd vq L.b] #[vd vn L.p,vd vq pu,vd vq vars,ve A R c] #[vd vn al,vd vn Ka,vd vn be];go_enter func253,ntmps253
 go_upto_region 1 with fail
 generalize ((w.alloc _).alloc _).alloc _=w1 at kl kt kx da |-;have cl:=kl.cell;go_upto_region 2 with fail
 have kf:=Blk.new w1 224 #[vd vn L.p];have ja:=(za w1.1.size w1).alloc zR (.cells #[vd vn L.p] 224);replace kl:=ia kl ja;replace kt:=ia kt ja;replace kx:=ia kx ja;replace da:=ma da ja;generalize w1.alloc _=w2 at kl kt kx kf da |-;generalize w1.1.size=gf at kf |-;clear ja cl;have cl:=kl.cell;go_wp2_with fail
 refine (HPt.out _).mono ?_;rintro e w3 ⟨g1,g2,rfl,-,kp,-,-,ta⟩;replace kl:=ia kl ta;replace kt:=ia kt ta;replace kx:=ia kx ta;replace kf:=ia kf ta;replace da:=ma da ta;clear ta cl HPt;have cl:=kl.cell;have ct:=kt.cell;have cx:=kx.cell;go_wp2_with fail
 refine (iG.out _ da).mono ?_;rintro e w4 ⟨vC,rfl,hC,ta⟩;replace kl:=ia kl ta;replace kx:=ia kx ta;replace kf:=ia kf ta;replace kp:=ia kp ta;replace da:=ma da ta;clear ta cl ct cx kt iG;obtain ⟨AC,nC,cC,rfl⟩:=RSl.slc hC.here;have hnC:nC=n:=by rw [<- (zj hC.here).1];exact Oy.out
 have hCd:=(zj hC.here).2.2.2;clear hC;subst hnC;have cl:=kl.cell;go_wp2_with fail
 refine (sp.out _).mono ?_;rintro e w5 ⟨rfl,ta⟩;have Hl:=ta;replace kl:=ia kl ta;replace kx:=ia kx ta;replace kf:=ia kf ta;replace kp:=ia kp ta;replace da:=ma da ta;clear ta cl sp;have cpi:=kp.cell i;rw [Ff _ (by omega),<- HX.out] at cpi
 go_upto_region 7 with fail
 clear cpi kp;have Ho:=Bb da ha;have aj:=Bb da hb;have ey:=Bb da hq;have cf:=kf.cell;have lf:=kf.lt;refine Cd (Tb) [3,7,11,12] [0,1,2,4,5,6,8,9,10,3,7,11,12,13] (by kernel_rfl) (by kernel_rfl) ?_
 refine De (pa) ?_;intro Wc Ha ea;have Ja:=Tf Ha;replace kl:=ia kl Ja;replace kx:=ia kx Ja;replace kf:=ia kf Ja;replace da:=ma da Ja;replace Ho:=Bb Ja Ho;replace aj:=Bb Ja aj;replace ey:=Bb Ja ey;replace Hl:=ma Hl Ja;clear Ja;refine Ob ?_;refine Gc (pa) rfl rfl rfl (fun _=>by go_simp <;> rfl) ((HEv.out _ _ _ _ _ Ho).mono ?_)
 rintro e w6 ⟨rfl,Ec⟩;refine ⟨_,rfl,Ec,?_⟩;replace ea:=(pa).trans _ _ _ ea (Ec);refine zPU ?_;replace kl:=ia kl Ec;replace kx:=ia kx Ec;replace kf:=ia kf Ec;replace da:=ma da Ec;replace aj:=Bb Ec aj;replace ey:=Bb Ec ey;replace Hl:=ma Hl Ec;clear Ec;refine Ob ?_;refine Gc (pa) rfl rfl rfl (fun _=>by go_simp <;> rfl) ((HEv.out _ _ _ _ _ aj).mono ?_)
 rintro e w7 ⟨rfl,pc⟩;refine ⟨_,rfl,pc,?_⟩;replace ea:=(pa).trans _ _ _ ea (pc);refine zPU ?_;replace kl:=ia kl pc;replace kx:=ia kx pc;replace kf:=ia kf pc;replace da:=ma da pc;replace ey:=Bb pc ey;replace Hl:=ma Hl pc;clear pc;refine Ob ?_;refine Gc (pa) rfl rfl rfl (fun _=>by go_simp <;> rfl) ((HEv.out _ _ _ _ _ ey).mono ?_)
 rintro e w8 ⟨rfl,Pj⟩;refine ⟨_,rfl,Pj,?_⟩;replace ea:=(pa).trans _ _ _ ea (Pj);refine zPU ?_;replace kl:=ia kl Pj;replace kx:=ia kx Pj;replace kf:=ia kf Pj;replace da:=ma da Pj;replace Hl:=ma Hl Pj;clear Pj cf lf Ho aj ey;rw [<- H00.out,<- H10.out,<- H20.out];refine Ob ?_;refine Ye (pa) rfl rfl rfl ?_;go_simp;have ja:=(za w8.1.size w8).alloc zR (.cells #[vd vn (C0 0:Int),vd vn (C1 0:Int),vd vn (C2 0:Int)] 22);have kg:=Blk.new w8 22 #[vd vn (C0 0:Int),vd vn (C1 0:Int),vd vn (C2 0:Int)];refine ⟨ja,?_⟩;have lf8:=kf.lt;have lx8:=kx.lt;replace kl:=ia kl ja;replace kx:=ia kx ja;replace kf:=ia kf ja;replace da:=ma da ja;have h48:=Hl.size;replace Hl:=ma Hl ja
 refine zPU ?_
 generalize w8.alloc _=w9 at kl kx kf kg da Hl |-;obtain ⟨gl,Xx⟩:=zEX (w8.1.size);rw [<- Xx] at kg h48 lf8 lx8 |-;clear ja Xx ea Ha;have ea:=(pa).refl w9;refine Ob ?_;refine Qc ?_;clear ea;have cf:=kf.cell;have lf:=kf.lt;have cl:=kl.cell;have ll:=kl.lt;go_upto_region 8 with fail
 refine Cd (Tb) [5,6] [0,1,2,3,4,5,6,7,8,9,10,11] (by kernel_rfl) (by kernel_rfl) ?_
 refine De (pa) ?_;intro Wc Ha ea;have Ja:=Tf Ha;replace kl:=ia kl Ja;replace kx:=ia kx Ja;replace kf:=ia kf Ja;replace kg:=ia kg Ja;replace da:=ma da Ja;replace Hl:=ma Hl Ja;clear Ja;refine Ob ?_;refine Gc (pa) rfl rfl rfl (fun _=>by go_simp <;> rfl) ((GD.out _).mono ?_)
 rintro e GA ⟨gp,rfl,-,kp,Jp⟩;refine ⟨_,rfl,Jp,?_⟩;replace ea:=(pa).trans _ _ _ ea (Jp);refine zPU ?_;replace kl:=ia kl Jp;replace kx:=ia kx Jp;replace kf:=ia kf Jp;replace kg:=ia kg Jp;replace da:=ma da Jp;replace Hl:=ma Hl Jp;have lg10:=kg.lt;clear Jp;have hp:=FB kp (fun k _=>Rr.out k) (by simp [maxLen];omega)
 refine Ob ?_;refine Gc (pa) rfl rfl rfl (fun _=>by go_simp <;> rfl) ((HIv.out _ _ _ _ hp).mono ?_)
 rintro e w11 ⟨gw,rfl,Yx,kw,PB⟩;refine ⟨_,rfl,PB,?_⟩;replace ea:=(pa).trans _ _ _ ea (PB);refine zPU ?_;replace kl:=ia kl PB;replace kx:=ia kx PB;replace kf:=ia kf PB;replace kg:=ia kg PB;replace da:=ma da PB;replace Hl:=ma Hl PB;have xw:gl<gw:=by omega
 clear PB hp kp Yx lg10 GD HIv Rr;refine Ob ?_;refine Qc ?_;clear cf lf cl ll ea Ha;have H1:=zH (show (1:Int)=((P 0:Nat):Int) by rw [Tw.out];rfl)
 have H12:=zH (show (1:Int)=((P2 0:Nat):Int) by rw [Wy.out];rfl)
 go_wp2_with fail
 go_loopw [25,97] (fun b y wr=>∃ j:Nat,j <= nC /\ y=vd vq j /\ b=vd vn (P j:Int) /\ Blk wr gl 22 #[vd vn (C0 j:Int),vd vn (C1 j:Int),vd vn (C2 0:Int)] /\ w11.grownBy wr (vE gl)) (fun _ y _=>nC-(intOf y).toNat)
 case atStart=>exact ⟨0,Lb _,rfl,by rw [<- H1.out],kg,Vd _ _⟩
 case round =>
  clear kg;obtain ⟨j,hj,rfl,rfl,kg,hg⟩:=hrel;have Hc:=kf.grown hg (fun e=>by have:=db e;omega)
  have kh:=kx.grown hg (fun e=>by have:=db e;omega)
  have zk:=kl.grown hg (fun e=>by have:=db e;omega)
  have sL:=Dd da hg;by_cases ra:j<nC
  ·have q1:(j:Int)<nC:=by omega
   have q2:(0:Int)<=j:=by omega
   have hjf:j<front.length:=by rw [<- HFN.out];exact ra
   have hjc:j<Zg.length:=by rw [Oy.out];exact ra
   obtain ⟨bf,qf,rfl,Bm,hcf⟩:=Ie Ut.out hjf;obtain ⟨bc,qc,A1,n1,c1,rfl,hbc,Fv,Gn⟩:=Lu hCd hjc;have z1:n1=L.block:=by rw [(Qb Gn).1];exact HCR.out _ (wg hjc)
   subst z1;have mQ:=zH (HDV.out j hjc);obtain ⟨rj,hrj⟩:=zEX (Zg[j]);rw [<- hrj] at Gn mQ;obtain ⟨v,hv⟩:=zEX (f j);obtain ⟨p0,Nf⟩:=zEX (P j);obtain ⟨p1,Ed⟩:=zEX (P (j+1));obtain ⟨s0,Tq⟩:=zEX (C0 j);obtain ⟨t0,VH⟩:=zEX (C0 (j+1));obtain ⟨s1,yd⟩:=zEX (C1 j);obtain ⟨t1,iy⟩:=zEX (C1 (j+1));obtain ⟨dj,hdj⟩:=zEX (dv j);obtain ⟨u0,aF⟩:=zEX (p1*v%L.p);obtain ⟨u1,bF⟩:=zEX (dj*v%L.p);have HP1j:=zH (Qr.out j);have H0j:=zH (H0S.out j);have H1j:=zH (H1S.out j);rw [<- Nf,<- Ed] at HP1j;rw [<- Tq,<- VH,<- Ed,<- hv,<- aF] at H0j;rw [<- yd,<- iy,<- hdj,<- hv,<- bF] at H1j;rw [<- hdj] at mQ;rw [<- HFF.out,<- hv] at hcf;rw [<- Tq,<- yd] at kg;rw [<- Nf];have HT:=zH (And.intro Ed (And.intro VH iy));have HMp:Hid (∀ w:vw,vB prog 142 #[vf #[vd vn L.p],vd vn p0,vd vn al] w fun e w'=>e=vl (vd vn p1) /\ vA w.1.size w w'):=zH (fun w=>by rw [HP1j.out];exact HM.out p0 al w)
   have HM0:Hid (∀ w:vw,vB prog 142 #[vf #[vd vn L.p],vd vn p1,vd vn v] w fun e w'=>e=vl (vd vn u0) /\ vA w.1.size w w'):=zH (fun w=>by rw [aF];exact HM.out p1 v w)
   have Le:Hid (∀ w:vw,vB prog 142 #[vf #[vd vn L.p],vd vn dj,vd vn v] w fun e w'=>e=vl (vd vn u1) /\ vA w.1.size w w'):=zH (fun w=>by rw [bF];exact HM.out dj v w)
   have tq:Hid (∀ w:vw,vB prog 219 #[vf #[vd vn L.p],vd vn s0,vd vn u0] w fun e w'=>e=vl (vd vn t0) /\ vA w.1.size w w'):=zH (fun w=>by rw [H0j.out];exact HS.out s0 u0 w)
   have Vg:Hid (∀ w:vw,vB prog 219 #[vf #[vd vn L.p],vd vn s1,vd vn u1] w fun e w'=>e=vl (vd vn t1) /\ vA w.1.size w w'):=zH (fun w=>by rw [H1j.out];exact HS.out s1 u1 w)
   have HDt:Hid (∀ (B:Option vy) (w':vw),RWd w' [ve A1 L.block c1] rj -> RWd w' [ve B L.block L.block] W -> vB prog 294 #[vf #[vd vn L.p],ve A1 L.block c1,ve B L.block L.block] w' fun e w2=>e=vl (vd vn dj) /\ vA w'.1.size w' w2):=zH (fun B w' h1 h2=>by rw [mQ.out];exact HD.out A1 B L.block c1 L.block L.block rj W w' h1 h2 rfl)
   have cfr:=(sL.cell (p:=⟨bf,qf+j,vD⟩) Bm).trans hcf;clear hrj hv Nf Ed Tq VH yd iy hdj aF bF hcf;have cx:=kh.cell;have cf:=Hc.cell;go_wp2_with fail
   refine (HMp.out _).mono ?_;rintro e wA ⟨rfl,ta⟩;replace Hc:=ia Hc ta;replace kg:=ia kg ta;replace hg:=Lf hg ta hg.size;clear ta cx cf cfr kh zk sL;have cf:=Hc.cell;have lf:=Hc.lt;have cg:=kg.cell;have lg:=kg.lt;go_upto_region 14 with fail
   refine JA (Tb) [8,9,11] [11] [0,1,2,3,4,5,6,7,8,9,10,11] (by kernel_rfl) (by kernel_rfl) ?_
   refine LA (pa) ?_;intro Wc Ha ea;have Ja:=Tf Ha;replace Hc:=ia Hc Ja;replace kg:=ia kg Ja;replace hg:=Lf hg Ja hg.size;refine ao ?_;refine Gt (pa) rfl rfl rfl (fun _=>by go_simp <;> rfl) ((HM0.out _).mono ?_)
   rintro e wB ⟨rfl,Qj⟩;refine ⟨_,rfl,fun _=>Qj,?_⟩
   replace ea:=(pa).trans _ _ _ ea (Qj);refine zPU ?_;replace Hc:=ia Hc Qj;replace kg:=ia kg Qj;replace hg:=Lf hg Qj hg.size;refine ao ?_;refine Gt (pa) rfl rfl rfl (fun _=>by go_simp <;> rfl) ((tq.out _).mono ?_)
   rintro e wC ⟨rfl,Mq⟩;refine ⟨_,rfl,fun _=>Mq,?_⟩
   replace ea:=(pa).trans _ _ _ ea (Mq);refine zPU ?_;replace Hc:=ia Hc Mq;replace kg:=ia kg Mq;replace hg:=Lf hg Mq hg.size;clear cf lf cg lg ea Ja Qj Mq Ha;have ea:=(pa).refl wC;obtain ⟨cg2,fg2⟩:=kg.cells';refine ao ?_;refine Ui (pa) rfl rfl rfl ?_;go_simp;refine ⟨fun h=>Bool.noConfusion h,?_⟩
   have Xa:=Bj (w:=wC) gl 0 (vd vn t0);replace kg:=kg.set_ 0 (vd vn t0);replace kg:Blk (wC.setCell ⟨gl,0,vD⟩ (vd vn t0)) gl 22 #[vd vn t0,vd vn s1,vd vn (C2 0:Int)]:=by simpa using kg
   replace Hc:=Hc.grown Xa (fun e=>by have:=db e;omega)
   replace hg:=Iq hg Xa (fun _ e=>.inl e)
   clear cg2 fg2 Xa ea;generalize wC.setCell _ _=wD at kg Hc hg |-;have ea:=(pa).refl wD;refine ao ?_;refine KA ?_;clear ea;have zb:=Dd Hl hg;have kw1:=kw.grown hg (fun e=>by have:=db e;omega)
   have hw:=FB kw1 (fun k _=>HIX.out _ k) (by simp [maxLen];omega)
   rw [HWW.out] at hw;have dt:=Bb zb Gn;have ccr:=(zb.cell (p:=⟨bc,qc+j,vD⟩) hbc).trans Fv;have lbc:bc<wD.1.size:=Sd hbc zb.size;have cf:=Hc.cell;have lf:=Hc.lt;have cg:=kg.cell;have lg:=kg.lt;clear zb kw1;go_upto_region 15 with fail
   refine JA (Tb) [12,14,15,17] [17] [0,1,2,3,4,5,6,7,8,9,10,11,13,12,14,15,16,17] (by kernel_rfl) (by kernel_rfl) ?_
   refine LA (pa) ?_;intro Wc Ha ea;have Ja:=Tf Ha;replace Hc:=ia Hc Ja;replace kg:=ia kg Ja;replace hw:=Bb Ja hw;replace dt:=Bb Ja dt;replace hg:=Lf hg Ja hg.size;refine ao ?_;refine Gt (pa) rfl rfl rfl (fun _=>by go_simp <;> rfl) ((HDt.out _ _ dt hw).mono ?_)
   rintro e wE ⟨rfl,uu⟩;refine ⟨_,rfl,fun _=>uu,?_⟩
   replace ea:=(pa).trans _ _ _ ea (uu);refine zPU ?_;replace Hc:=ia Hc uu;replace kg:=ia kg uu;replace hg:=Lf hg uu hg.size;refine ao ?_;refine Gt (pa) rfl rfl rfl (fun _=>by go_simp <;> rfl) ((Le.out _).mono ?_)
   rintro e wF ⟨rfl,ei⟩;refine ⟨_,rfl,fun _=>ei,?_⟩
   replace ea:=(pa).trans _ _ _ ea (ei);refine zPU ?_;replace Hc:=ia Hc ei;replace kg:=ia kg ei;replace hg:=Lf hg ei hg.size;refine ao ?_;refine Gt (pa) rfl rfl rfl (fun _=>by go_simp <;> rfl) ((Vg.out _).mono ?_)
   rintro e wG ⟨rfl,hbG⟩;refine ⟨_,rfl,fun _=>hbG,?_⟩
   replace ea:=(pa).trans _ _ _ ea (hbG);refine zPU ?_;replace Hc:=ia Hc hbG;replace kg:=ia kg hbG;replace hg:=Lf hg hbG hg.size;clear cf lf cg lg ea Ja uu ei hbG Ha hw dt ccr lbc;have ea:=(pa).refl wG;obtain ⟨cg2,fg2⟩:=kg.cells';refine ao ?_;refine Ui (pa) rfl rfl rfl ?_;go_simp;refine ⟨fun h=>Bool.noConfusion h,?_⟩
   have Xa:=Bj (w:=wG) gl 1 (vd vn t1);replace kg:=kg.set_ 1 (vd vn t1);replace kg:Blk (wG.setCell ⟨gl,1,vD⟩ (vd vn t1)) gl 22 #[vd vn t0,vd vn t1,vd vn (C2 0:Int)]:=by simpa using kg
   replace hg:=Iq hg Xa (fun _ e=>.inl e)
   clear cg2 fg2 Xa ea Hc;generalize wG.setCell _ _=wH at kg hg |-;have ea:=(pa).refl wH;refine ao ?_;refine KA ?_;clear ea;go_wp2_with fail
   go_roundw
   case rel=>exact ⟨j+1,by omega,by go_num,by rw [HT.out.1],by rw [<- HT.out.2.1,<- HT.out.2.2];exact kg,hg⟩
   case measure=>simp [intOf];omega
  ·obtain rfl:j=nC:=by omega
   have q1:¬((j:Int)<j):=by omega
   clear kf kx kl Hl hCd kw da;have cl:=zk.cell;go_wp2_with fail
   refine (HSp.out _).mono ?_;rintro e wS ⟨⟨X1,X2,X3,c1,c2,c3,rfl,hX⟩,ta⟩;replace Hc:=ia Hc ta;replace kh:=ia kh ta;replace kg:=ia kg ta;replace sL:=ma sL ta;have Zm:=zH hX;clear ta cl hX zk hg;go_wp2_with fail
   go_loopw [25,146] (fun b y wr=>∃ t:Nat,t <= L.b /\ y=vd vq t /\ b=vd vn (P2 t:Int) /\ Blk wr gl 22 #[vd vn (C0 j:Int),vd vn (C1 j:Int),vd vn (C2 t:Int)] /\ wS.grownBy wr (vE gl)) (fun _ y _=>L.b-(intOf y).toNat)
   case atStart=>exact ⟨0,Lb _,rfl,by rw [<- H12.out],kg,Vd _ _⟩
   case round =>
    clear kg;obtain ⟨t,ht,rfl,rfl,kg,hg⟩:=hrel;have uJ:=Dd sL hg;by_cases ra:t<L.b
    ·have q2:(t:Int)<L.b:=by omega
     have q3:(0:Int)<=t:=by omega
     have hN4:=HN4.out;have hFN:=HFN.out;obtain ⟨b1,zr,rfl,Bm,Ad⟩:=Ie Ut.out (show L.a+t<front.length by omega)
     obtain ⟨b2,q2',hA,-,Re⟩:=Ie Ut.out (show L.a+L.b+t<front.length by omega)
     injection hA with hA;injection hA with hA1 hA2 hA3;subst hA1 hA2
     obtain ⟨b3,q3',hA,-,Lh⟩:=Ie Ut.out (show L.a+L.b+L.b+t<front.length by omega)
     injection hA with hA;injection hA with hA1 hA2 hA3;subst hA1 hA2
     clear hN4 hFN;obtain ⟨rfl,rfl,rfl⟩:=Zm.out (by omega) b1 zr rfl
     have w1c:=(uJ.cell (p:=⟨b1,zr+(L.a+t),vD⟩) Bm).trans Ad;have w2c:=(uJ.cell (p:=⟨b1,zr+(L.a+L.b+t),vD⟩) Bm).trans Re;have w3c:=(uJ.cell (p:=⟨b1,zr+(L.a+L.b+L.b+t),vD⟩) Bm).trans Lh;rw [show zr+(L.a+t)=zr+L.a+t by omega] at w1c
     rw [show zr+(L.a+L.b+t)=zr+(L.a+L.b)+t by omega] at w2c
     rw [show zr+(L.a+L.b+L.b+t)=zr+(L.a+L.b+L.b)+t by omega] at w3c
     have lbf:b1<wr.1.size:=Sd Bm uJ.size;rw [<- HFF.out] at w1c w2c w3c;obtain ⟨x1,Yc⟩:=zEX (f (L.a+t));obtain ⟨x2,fh⟩:=zEX (f (L.a+L.b+t));obtain ⟨x3,CC⟩:=zEX (f (L.a+L.b+L.b+t));obtain ⟨p0,Nf⟩:=zEX (P2 t);obtain ⟨p1,Ed⟩:=zEX (P2 (t+1));obtain ⟨s0,Tq⟩:=zEX (C2 t);obtain ⟨t0,VH⟩:=zEX (C2 (t+1));obtain ⟨y1,de⟩:=zEX (x1*x2%L.p);obtain ⟨y2,Au⟩:=zEX ((y1+Rf L.p x3)%L.p);obtain ⟨y3,hy3⟩:=zEX (p1*y2%L.p);have HR1t:=zH (Di.out t);have H2t:=zH (H2S.out t);rw [<- Nf,<- Ed] at HR1t;rw [<- Tq,<- VH,<- Ed,<- Yc,<- fh,<- CC,<- de,<- Au,<- hy3] at H2t;rw [<- Yc] at w1c;rw [<- fh] at w2c;rw [<- CC] at w3c;rw [<- Tq] at kg;rw [<- Nf];have HT:=zH (And.intro Ed VH);have HMp:Hid (∀ w:vw,vB prog 142 #[vf #[vd vn L.p],vd vn p0,vd vn be] w fun e w'=>e=vl (vd vn p1) /\ vA w.1.size w w'):=zH (fun w=>by rw [HR1t.out];exact HM.out p0 be w)
     have Le:Hid (∀ w:vw,vB prog 142 #[vf #[vd vn L.p],vd vn x1,vd vn x2] w fun e w'=>e=vl (vd vn y1) /\ vA w.1.size w w'):=zH (fun w=>by rw [de];exact HM.out x1 x2 w)
     have Vg:Hid (∀ w:vw,vB prog 219 #[vf #[vd vn L.p],vd vn y1,vd vn x3] w fun e w'=>e=vl (vd vn y2) /\ vA w.1.size w w'):=zH (fun w=>by rw [Au];exact HS.out y1 x3 w)
     have HM2:Hid (∀ w:vw,vB prog 142 #[vf #[vd vn L.p],vd vn p1,vd vn y2] w fun e w'=>e=vl (vd vn y3) /\ vA w.1.size w w'):=zH (fun w=>by rw [hy3];exact HM.out p1 y2 w)
     have Xm:Hid (∀ w:vw,vB prog 219 #[vf #[vd vn L.p],vd vn s0,vd vn y3] w fun e w'=>e=vl (vd vn t0) /\ vA w.1.size w w'):=zH (fun w=>by rw [H2t.out];exact HS.out s0 y3 w)
     clear Yc fh CC Nf Ed Tq VH de Au hy3 Ad Re Lh;have Pf:=Hc.grown hg (fun e=>by have:=db e;omega)
     have qt:=kh.grown hg (fun e=>by have:=db e;omega)
     have cx:=qt.cell;have cf:=Pf.cell;go_wp2_with fail
     refine (HMp.out _).mono ?_;rintro e wA ⟨rfl,ta⟩;replace w1c:=(ta.cell (p:=⟨b1,zr+L.a+t,vD⟩) lbf).trans w1c;replace w2c:=(ta.cell (p:=⟨b1,zr+(L.a+L.b)+t,vD⟩) lbf).trans w2c;replace w3c:=(ta.cell (p:=⟨b1,zr+(L.a+L.b+L.b)+t,vD⟩) lbf).trans w3c;replace lbf:=Sd lbf ta.size;replace Pf:=ia Pf ta;replace kg:=ia kg ta;replace hg:=Lf hg ta hg.size;clear ta cx cf qt uJ;have cf:=Pf.cell;have lf:=Pf.lt;have cg:=kg.cell;have lg:=kg.lt;go_upto_region 23 with fail
     refine JA (Tb) [17,22,23,24,26] [26] [0,1,2,3,4,5,6,7,8,9,10,11,12,13,14,15,16,18,19,20,21,17,22,23,24,25,26] (by kernel_rfl) (by kernel_rfl) ?_
     refine LA (pa) ?_;intro Wc Ha ea;have Ja:=Tf Ha;replace Pf:=ia Pf Ja;replace kg:=ia kg Ja;replace hg:=Lf hg Ja hg.size;refine ao ?_;refine Gt (pa) rfl rfl rfl (fun _=>by go_simp <;> rfl) ((Le.out _).mono ?_)
     rintro e wB ⟨rfl,Qj⟩;refine ⟨_,rfl,fun _=>Qj,?_⟩
     replace ea:=(pa).trans _ _ _ ea (Qj);refine zPU ?_;replace Pf:=ia Pf Qj;replace kg:=ia kg Qj;replace hg:=Lf hg Qj hg.size;refine ao ?_;refine Gt (pa) rfl rfl rfl (fun _=>by go_simp <;> rfl) ((Vg.out _).mono ?_)
     rintro e wC ⟨rfl,Mq⟩;refine ⟨_,rfl,fun _=>Mq,?_⟩
     replace ea:=(pa).trans _ _ _ ea (Mq);refine zPU ?_;replace Pf:=ia Pf Mq;replace kg:=ia kg Mq;replace hg:=Lf hg Mq hg.size;refine ao ?_;refine Gt (pa) rfl rfl rfl (fun _=>by go_simp <;> rfl) ((HM2.out _).mono ?_)
     rintro e wD ⟨rfl,hbD⟩;refine ⟨_,rfl,fun _=>hbD,?_⟩
     replace ea:=(pa).trans _ _ _ ea (hbD);refine zPU ?_;replace Pf:=ia Pf hbD;replace kg:=ia kg hbD;replace hg:=Lf hg hbD hg.size;refine ao ?_;refine Gt (pa) rfl rfl rfl (fun _=>by go_simp <;> rfl) ((Xm.out _).mono ?_)
     rintro e wE ⟨rfl,uu⟩;refine ⟨_,rfl,fun _=>uu,?_⟩
     replace ea:=(pa).trans _ _ _ ea (uu);refine zPU ?_;replace Pf:=ia Pf uu;replace kg:=ia kg uu;replace hg:=Lf hg uu hg.size;clear cf lf cg lg ea Ja Qj Mq hbD uu Ha w1c w2c w3c lbf;have ea:=(pa).refl wE;obtain ⟨cg2,fg2⟩:=kg.cells';refine ao ?_;refine Ui (pa) rfl rfl rfl ?_;go_simp;refine ⟨fun h=>Bool.noConfusion h,?_⟩
     have Xa:=Bj (w:=wE) gl 2 (vd vn t0);replace kg:=kg.set_ 2 (vd vn t0);replace kg:Blk (wE.setCell ⟨gl,2,vD⟩ (vd vn t0)) gl 22 #[vd vn (C0 j:Int),vd vn (C1 j:Int),vd vn t0]:=by simpa using kg
     replace hg:=Iq hg Xa (fun _ e=>.inl e)
     clear cg2 fg2 Xa ea Pf;generalize wE.setCell _ _=wH at kg hg |-;have ea:=(pa).refl wH;refine ao ?_;refine KA ?_;clear ea;go_wp2_with fail
     go_roundw
     case rel=>exact ⟨t+1,by omega,by go_num,by rw [HT.out.1],by rw [<- HT.out.2];exact kg,hg⟩
     case measure=>simp [intOf];omega
    ·obtain rfl:t=L.b:=by omega
     have q2:¬((L.b:Int)<L.b):=by omega
     have ho:=zDI (l:=[C0 j,C1 j,C2 L.b]) kg (base:=w.1.size) (by omega) (by simp [maxLen])
     go_wp2;go_ret
     exact ⟨_,rfl,ho,uJ⟩
theorem zFv (A1 A2:Option vy) (n1 c1 n2 c2:Nat) (l1 l2:List Nat) (w:vw) (h1:RWd w [ve A1 n1 c1] l1) (h2:RWd w [ve A2 n2 c2] l2) :
  vB prog 252 #[ve A1 n1 c1,ve A2 n2 c2] w fun e w'=>e=vl (.bool (decide (l1=l2))) /\ vA w.1.size w w':=by
 obtain ⟨rfl,a1,a2,a3,r1⟩:=Qb h1;obtain ⟨rfl,b1,b2,b3,r2⟩:=Qb h2;have gm:=Tl a1 a2;have gm2:=Tl b1 b2;clear h1 h2 a1 a2 b1 b2 a3 b3;by_cases hn:l1.length=l2.length
 rotate_left
 ·have t1:((l1.length:Int)!=l2.length)=true:=by rw [Df];omega
  have t2:((l1.length:Int)==l2.length)=false:=by rw [pd];omega
  have HF:=zH (show decide (l1=l2)=false from xb fun h=>hn (by rw [h]))
  rw [HF.out];generalize l1.length=m1 at *;generalize l2.length=m2 at *;clear r1 r2 hn;go_enter func252,ntmps252
  go_wp2;go_ret
  exact ⟨rfl,za _ _⟩
 have t1:((l1.length:Int)!=l2.length)=false:=by rw [pk];omega
 have t2:((l1.length:Int)==l2.length)=true:=by rw [Hh];omega
 obtain ⟨n,Ge⟩:∃ n,l1.length=n:=⟨_,rfl⟩;have Wd:l2.length=n:=by omega
 rw [Ge] at r1;rw [Wd] at r2;rw [Ge,Wd] at t1 t2;rw [Ge] at gm;rw [Ge,Wd];obtain ⟨ans,ha⟩:=zEX (decide (l1=l2));rw [<- ha];have HA:=zH ha;have H1:=zH Ge;have H2:=zH Wd;clear hn Ge Wd gm2 ha;go_enter func252,ntmps252
 go_wp2_with fail
 go_loopw [13] (fun y wr=>∃ i:Nat,i <= n /\ y=vd vq i /\ Hid (l1.take i=l2.take i) /\ vA w.1.size w wr) (fun y _=>n-(intOf y).toNat)
 case atStart=>exact ⟨0,Lb _,rfl,rfl,za _ _⟩
 case round =>
  obtain ⟨i,hi,rfl,HT,Ab⟩:=hrel;by_cases ra:i<n
  ·have g1:(0:Int)<=i:=by omega
   have g2:(i:Int)<n:=by omega
   have q1:=r1.below Ab;have q2:=r2.below Ab;rw [<- H1.out] at q1;rw [<- H2.out] at q2;obtain ⟨x1,y1,rfl,v1,d1⟩:=Ie q1 (j:=i) (by rw [H1.out];exact ra)
   obtain ⟨x2,y2,rfl,v2,d2⟩:=Ie q2 (j:=i) (by rw [H2.out];exact ra)
   clear q1 q2;by_cases he:l1.getD i 0=l2.getD i 0
   ·have aB:=zH (zFA HT.out (by rw [H1.out];exact ra) (by rw [H2.out];exact ra) he)
    rw [<- he] at d2;generalize l1.getD i 0=z at *;have u1:((z:Int)!=z)=false:=by rw [pk]
    have u2:((z:Int)==z)=true:=by rw [Hh]
    clear he HT;go_wp2_with fail
    refine Ve (Tb) (pa) [] [] [0,1,2,3,4,5,6,7,8] (by kernel_rfl) (by kernel_rfl) ?_
    refine Xe (pa) ?_;intro Wc ea;refine Ee ?_;refine Hr rfl ?_;intro wd ke;replace ea:=(pa).trans _ _ _ ea ke;clear ke;go_wp2;replace Ab:=ma Ab.drew ea
    go_roundw
    case rel=>exact ⟨i+1,by omega,by go_num,aB.out,Ab⟩
    case measure=>simp [intOf];omega
   ·have HF:=zH (HA.out.trans (zFz he))
    generalize l1.getD i 0=z1 at *;generalize l2.getD i 0=z2 at *;have u1:((z1:Int)!=z2)=true:=by rw [Df];omega
    have u2:((z1:Int)==z2)=false:=by rw [pd];omega
    clear he HT;go_wp2_with fail
    refine Ve (Tb) (pa) [] [] [0,1,2,3,4,5,6,7,8] (by kernel_rfl) (by kernel_rfl) ?_
    refine Xe (pa) ?_;intro Wc ea;refine Ee ?_;refine Hr rfl ?_;intro wd ke;replace ea:=(pa).trans _ _ _ ea ke;clear ke;go_wp2;go_ret
    exact ⟨by rw [HF.out];rfl,ma Ab.drew ea⟩
  ·obtain rfl:i=n:=by omega
   have HF:=zH (HA.out.trans (yb (by have:=HT.out;rwa [<- H1.out,Cp,H1.out,<- H2.out,Cp] at this)))
   go_wp2;go_ret
   exact ⟨by rw [HF.out];rfl,Ab⟩
def yB (L:Ra) (cs:List (List Nat)) (al be:Nat) (a b q:List Nat) (i:Int) (v:List Nat):Bool :=
 yv L a b q&&decide (0 <= i)&&decide (i<(L.n:Int))&&Jh v (L.a+L.b+L.b+L.b+3) L.p&&decide (uz L cs al be a b q (qh L.p (Mb L.p).1 L.n i.toNat) (v.take (L.a+L.b+L.b+L.b))=v.drop (L.a+L.b+L.b+L.b))
theorem zDN (L:Ra) (pu Ka al be:Nat) (vars i:Int) (A B1 B2 B3 F:Option vy) (R c m1 d1 m2 d2 m3 d3 n d:Nat) (rows:List Ya) (a b q v:List Nat) (w:vw)
  (hL:Rb L) (hF:cu L pu vars rows) (hr:RSl 3 oe w [ve A R c] rows) (hV:ox vars rows)
  (ha:RWd w [ve B1 m1 d1] a) (hb:RWd w [ve B2 m2 d2] b) (hq:RWd w [ve B3 m3 d3] q) (hv:RWd w [ve F n d] v) :
  vB prog 177 #[vf (Db L),sc L.p (pu:Int) vars (ve A R c),vf #[vd vn al,vd vn Ka,vd vn be],ve B1 m1 d1,ve B2 m2 d2,ve B3 m3 d3,vd vq i,ve F n d] w fun e w'=>e=vl (.bool (yB L (Xh L pu Ka rows) al be a b q i v)) /\ vA w.1.size w w':=by
 have Vs:=hL.a;have Qq:=hL.b;obtain ⟨T,hT⟩:=zEX (L.a+L.b+L.b+L.b);obtain ⟨hvn,hvd,ly,-,-⟩:=Qb hv;have gm:=Tl hvd ly;have sp:=zH (fun w=>by have:=AI L.p L.block L.queries L.k L.n L.secret L.rows L.a L.b L.b L.b w hL.a hL.b hL.b hL.b;rw [<- hT] at this;exact this)
 have HFi:=zH (fun w' (h:vA w.1.size w w')=>TX L B1 B2 B3 m1 d1 m2 d2 m3 d3 a b q w' hL (Bb h ha) (Bb h hb) (Bb h hq) ⟨(Qb ha).1,(Qb hb).1,(Qb hq).1⟩)
 have jo:=zH (fun w' (h:vA w.1.size w w')=>iN L F n d v w' (Bb h hv))
 have HC:=zH (fun (w':vw) (h:vA w.1.size w w') (j:Nat) (hj:j<L.n) (hTn:T <= n)=>zDO L pu Ka al be vars A B1 B2 B3 F R c m1 d1 m2 d2 m3 d3 j T d rows a b q (v.take T) w' hL hF (Dg Bg _ _ _ _ h hr) hV (Bb h ha) (Bb h hb) (Bb h hq) (IP (Bb h hv) hTn) hj (by rw [List.length_take,<- hT];omega))
 obtain ⟨CD,hCD⟩:∃ CD:Nat -> List Nat,CD=fun j=>uz L (Xh L pu Ka rows) al be a b q (qh L.p (Mb L.p).1 L.n j) (v.take T):=⟨_,rfl⟩
 have Nw:=zH (show ∀ j,uz L (Xh L pu Ka rows) al be a b q (qh L.p (Mb L.p).1 L.n j) (v.take T)=CD j from fun j=>by rw [hCD])
 have HCX:=zH (show ∀ j,(∀ y∈CD j,y<18446744073709551616) /\ (CD j).length=3 from fun j=>by
  rw [hCD];refine ⟨fun y hy=>?_,rfl⟩
  have hp:=Nb hL.p;simp only [uz,Xg,List.not_mem_nil,or_false] at hy;rcases hy with h | h | h <;> rw [h] <;> exact Eh (LF (by omega) _ _) hp.2)
 have HEq:=zH (fun (j:Nat) (A1:Option vy) (c1:Nat) (w':vw) (h:vA w.1.size w w') (hTn:T <= n) (h3:RWd w' [ve A1 3 c1] (CD j))=>zFv A1 (if d=T then F else Option.map (fun x=>x.add T) F) 3 c1 (n-T) (d-T) (CD j) (v.drop T) w' h3 (tM (Bb h hv) hTn))
 have HE:=zH (show yB L (Xh L pu Ka rows) al be a b q i v=(yv L a b q&&decide (0 <= i)&&decide (i<(L.n:Int))&&(decide (v.length=T+3)&&v.all fun x=>decide (x<L.p))&&decide (CD i.toNat=v.drop T)) by rw [hCD,hT];rfl)
 obtain ⟨ans,Cv⟩:=zEX (yB L (Xh L pu Ka rows) al be a b q i v);rw [<- Cv] at HE |-;obtain ⟨t,ht⟩:=zEX (T+3);have e1:(T:Int)+3=(t:Int):=by omega
 have e2:=Ce t;have HT:=zH ht;have HN:=zH hvn;generalize yv L a b q=b1 at *;generalize (v.all fun x=>decide (x<L.p))=b2 at *
 have gT:T <= 400000:=by omega
 have gd:n <= d:=hvd;clear Vs Qq hT hvn hvd ly hCD Cv ht hL hF hr hV ha hb hq hv;unfold Db sc at *;obtain ⟨kl,kt,kx,da,-⟩:=rn w 101 25 136 #[vd vn L.p,vd vq L.block,vd vq L.queries,vd vq L.k,vd vq L.n,vd vq L.secret,vd vq L.rows,vd vq L.a,vd vq L.b,vd vq L.b,vd vq L.b] #[vd vn L.p,vd vq pu,vd vq vars,ve A R c] #[vd vn al,vd vn Ka,vd vn be];go_enter func177,ntmps177
 go_upto_region 1 with fail
 generalize ((w.alloc _).alloc _).alloc _=w1 at kl kt kx da |-;have cl:=kl.cell;go_wp2_with fail
 refine (sp.out _).mono ?_;rintro e w2 ⟨rfl,ta⟩;replace kl:=ia kl ta;replace kt:=ia kt ta;replace kx:=ia kx ta;replace da:=ma da ta;clear ta cl;have cl:=kl.cell;go_wp2_with fail
 refine (HFi.out _ da).mono ?_;rintro e w3 ⟨rfl,ta⟩;replace kl:=ia kl ta;replace kt:=ia kt ta;replace kx:=ia kx ta;replace da:=ma da ta;clear ta cl;cases b1
 ·go_wp2
  go_ret
  exact ⟨by rw [HE.out];simp,da⟩
 by_cases hi0:i<0
 ·have x1:decide (i<0)=true:=yb hi0
  have HF:=zH (show ans=false by rw [HE.out,xb (show ¬(0 <= i) by omega)];simp)
  clear HE;go_wp2;go_ret
  exact ⟨by rw [HF.out];rfl,da⟩
 have x1:decide (i<0)=false:=xb hi0;have cl:=kl.cell;by_cases hiN:(L.n:Int) <= i
 ·have x2:decide ((L.n:Int) <= i)=true:=yb hiN
  have HF:=zH (show ans=false by rw [HE.out,xb (show ¬(i<(L.n:Int)) by omega)];simp)
  clear HE;go_wp2;go_ret
  exact ⟨by rw [HF.out];rfl,da⟩
 have x2:decide ((L.n:Int) <= i)=false:=xb hiN;by_cases hlen:n=t
 rotate_left
 ·have x3:((n:Int)!=t)=true:=by rw [Df];omega
  have HF:=zH (show ans=false by rw [HE.out,xb (show ¬(v.length=T+3) by have:=HT.out;have:=HN.out;omega)];simp)
  clear HE hlen;go_wp2;go_ret
  exact ⟨by rw [HF.out];rfl,da⟩
 have x3:((n:Int)!=t)=false:=by rw [pk];omega
 obtain ⟨j,rfl⟩:=Kk (show 0 <= i by omega)
 have hjn:j<L.n:=by omega
 have Tg:=zH (show ans=(b2&&decide (CD j=v.drop T)) by rw [HE.out,yb (show 0 <= (j:Int) by omega),yb (show (j:Int)<L.n by omega),yb (show v.length=T+3 by have:=HT.out;have:=HN.out;omega)];simp)
 have hTn:T <= n:=by have:=HT.out;omega
 have y1:(0:Int)<=T:=by omega
 have y2:(T:Int)<=n:=by omega
 have y3:(T:Int)<=d:=by omega
 clear hi0 hiN hlen HE;go_wp2_with fail
 refine (jo.out _ da).mono ?_;rintro e w4 ⟨rfl,ta⟩;replace kl:=ia kl ta;replace kt:=ia kt ta;replace kx:=ia kx ta;replace da:=ma da ta;clear ta cl;cases b2
 ·go_wp2
  go_ret
  exact ⟨by rw [Tg.out];rfl,da⟩
 have cl:=kl.cell;have ll:=kl.lt;have ct:=kt.cell;have lt:=kt.lt;have cx:=kx.cell;have lx:=kx.lt;go_upto_region 4 with fail
 refine Cd (Tb) [10,14] [0,1,2,3,4,5,6,7,8,9,11,12,13,10,14,15] (by kernel_rfl) (by kernel_rfl) ?_
 refine De (pa) ?_;intro Wc Ha ea;have Ja:=Tf Ha;replace da:=ma da Ja;clear Ja;refine Ob ?_;refine Gc (pa) rfl rfl rfl (fun _=>by go_simp <;> rfl) ((HC.out _ da j hjn hTn).mono ?_)
 rintro e w5 ⟨v5,rfl,o5,Wa⟩;refine ⟨_,rfl,Wa,?_⟩;replace ea:=(pa).trans _ _ _ ea (Wa);refine zPU ?_;rw [Nw.out] at o5;obtain ⟨A5,c5,rfl,-⟩:=ud o5;have h5:=Om o5 (HCX.out j).1;replace da:=ma da Wa;clear Wa o5;refine Ob ?_;refine Gc (pa) rfl rfl rfl (fun _=>by go_simp <;> rfl) ((HEq.out j _ _ _ da hTn h5).mono ?_)
 rintro e w6 ⟨rfl,Ec⟩;refine ⟨_,rfl,Ec,?_⟩;replace ea:=(pa).trans _ _ _ ea (Ec);refine zPU ?_;replace da:=ma da Ec;clear Ec h5;refine Ob ?_;refine Qc ?_;generalize (if d=T then F else Option.map (fun x=>x.add T) F)=FX
 go_wp2;go_ret
 exact ⟨by rw [Tg.out];rfl,da⟩
theorem zAy {L:Ra} {cs:List (List Nat)} {al be i:Nat} {a b q v l:List Nat} (hf:yv L a b q=true) (hi:i<L.n) (hv:v.length=L.a+L.b+L.b+L.b) (hlv:∀ x∈v,x<L.p) (hl:l.length=3) (Lv:∀ x∈l,x<L.p) :
  yB L cs al be a b q (i:Int) (v++l)=decide (uz L cs al be a b q (qh L.p (Mb L.p).1 L.n i) v=l):=by
 have e1:Jh (v++l) (L.a+L.b+L.b+L.b+3) L.p=true:=by
  unfold Jh;rw [Cc,Bo,Xd];refine ⟨by rw [Kf];omega,fun x hx=>?_⟩
  rw [Bo];rcases uq.1 hx with h | h
  ·exact hlv x h
  ·exact Lv x h
 have e2:decide ((0:Int)<=i)=true:=yb (by omega)
 have e3:decide ((i:Int)<L.n)=true:=yb (by omega)
 unfold yB;rw [hf,e1,e2,e3,List.take_left' hv,List.drop_left' hv,Lk]
 rfl
theorem Cg.less {p:Nat} {x y u v:Int} (h:Cg p x y) (h2:Cg p u v):Cg p (x-u) (y-v):=by
 rw [Int.sub_eq_add_neg,Int.sub_eq_add_neg];exact h.add h2.neg
theorem S9 {L:Ra} (m r:List (List Nat)) (co:List Nat) (al:Nat) (x:Int):Cg L.p (Sc (oz L m r co al) x) (Sc co x+Na (fun j=>(Eg L.p al (j+1):Int)*Sc ((Jf L m r).getD j []) x) m.length):=by
 unfold oz;rw [ER];exact (jE _ _ _).trans (Cg.rfl'.add (jR _ _ _ _))
theorem tW {L:Ra} (cs m r:List (List Nat)) (li:List Nat) (x:Int):Cg L.p (Sc (tx L cs m r li) x) (Sc (bg L li) x+Na (fun j=>Sc ((dp L.p cs).getD j []) x*Sc ((Jf L m r).getD j []) x) m.length):=by
 unfold tx;rw [ER];exact (jE _ _ _).trans (Cg.rfl'.add (CT _ _ _ _))
theorem uW {L:Ra} (hp:1<L.p) (m r:List (List Nat)) (qu:List Nat) (be:Nat) (x:Int):Cg L.p (Sc (ux L m r qu be) x) (Sc (ow L qu) x+Na (fun j=>(Eg L.p be (j+1):Int)*(Sc ((Jf L m r).getD (L.a+j) []) x*Sc ((Jf L m r).getD (L.a+L.b+j) []) x-Sc ((Jf L m r).getD (L.a+L.b+L.b+j) []) x)) L.b):=by
 unfold ux;rw [ER];exact (jE _ _ _).trans (Cg.rfl'.add (tU hp _ _ _ _ _ _))
theorem XU {p:Nat} (hp:0<p) {a c:List Nat} {s x:Nat} {S:Int} (h1:Cg p (Sc a x) (Sc c x+S)) (h2:Cg p (s:Int) S):AA p (Xc p a x) s=Xc p c x:=by
 refine Cg.eq (p:=p) ?_ (LF hp _ _) (ou hp _ _);refine (JF hp _ _).trans ?_;refine Cg.trans ?_ (Dq c).symm;refine (Cg.less ((Dq a).trans h1) h2).trans (Cg.of_eq ?_);omega
theorem zAB {L:Ra} (hL:Rb L) {cs:List (List Nat)} {a b c co ml qd:List Nat} {R:List (List Nat)} {al be x:Nat} {v:List Nat} (hv:v.length=L.a+L.b+L.b+L.b) (ly:∀ j,j<v.length -> v.getD j 0=Xc L.p (R.getD j []) x)
  (ha:Cg L.p (Sc a x) (Sc co x+Na (fun j=>(Eg L.p al (j+1):Int)*Sc (R.getD j []) x) v.length))
  (hb:Cg L.p (Sc b x) (Sc ml x+Na (fun j=>Sc ((dp L.p cs).getD j []) x*Sc (R.getD j []) x) v.length))
  (hc:Cg L.p (Sc c x) (Sc qd x+Na (fun j=>(Eg L.p be (j+1):Int)*(Sc (R.getD (L.a+j) []) x*Sc (R.getD (L.a+L.b+j) []) x-Sc (R.getD (L.a+L.b+L.b+j) []) x)) L.b)) :
  uz L cs al be a b c x v=[Xc L.p co x,Xc L.p ml x,Xc L.p qd x]:=by
 obtain ⟨hp,-⟩:=Nb hL.p;have Nf:0<L.p:=by omega
 have hf:∀ j,j<v.length -> Cg L.p ((v.getD j 0:Nat):Int) (Sc (R.getD j []) x):=fun j h=>by rw [ly j h];exact Dq _
 unfold uz;rw [XU Nf ha ((aX _ al _).trans (ui _ fun j hj=>Cg.rfl'.mul (hf j hj)))]
 rw [XU Nf hb ((nZ _ _ _).trans (ui _ fun j hj=>(Dq _).mul (hf j hj)))]
 rw [XU Nf hc ((xP (by omega) hv.symm _ be).trans (ui _ fun j hj=>Cg.rfl'.mul (((hf _ (by omega)).mul (hf _ (by omega))).less (hf _ (by omega)))))]
theorem zEp {L:Ra} (hL:Rb L) {m r:List (List Nat)} (h:Zt L m r) (co li qu:List Nat) {j:Nat} (hj:j<m.length):(yj L m r co li qu).getD j []=(Jf L m r).getD j []:=by
 rw [cD hL h hj];have h1:(yj L m r co li qu).getD j []=EF L m r j:=by
  unfold yj;rw [Jb,OD (by simp [Ay];exact hj)]
  simp [Ay,hj]
 have h2:(r.getD j []).length=L.queries:=nE h.rr (by rw [h.rl];exact hj)
 rw [h1];unfold EF yq xx;rw [h2,<- hL.k]
theorem zEo (L:Ra) (m r:List (List Nat)) (co li qu:List Nat):(yj L m r co li qu).getD m.length []=co /\ (yj L m r co li qu).getD (m.length+1) []=bg L li /\ (yj L m r co li qu).getD (m.length+2) []=fM L qu:=by
 have hl:(Ay L m r m.length).length=m.length:=by simp [Ay]
 unfold yj;simp only [Jb];refine ⟨?_,?_,?_⟩
 ·rw [Su (by omega),hl,Nat.sub_self];rfl
 ·rw [Su (by omega),hl,DG];rfl
 ·rw [Su (by omega),hl,DG];rfl
theorem zAz {L:Ra} (hL:Rb L) {cs m r:List (List Nat)} (h:Zt L m r) (Gf:∀ x∈cs,x.length=L.block) (Mh:cs.length=m.length) {co li qu:List Nat} (hc:co.length=L.k /\ ∀ y∈co,y<L.p) (hl:li.length=L.k+L.block-2 /\ ∀ y∈li,y<L.p) (hq:qu.length=L.block+2*L.queries-1) (al be:Nat) {i:Nat} (hi:i<L.n) :
  yB L cs al be (oz L m r co al) (tx L cs m r li) (ux L m r qu be) (i:Int) ((List.range (m.length+3)).map (Hs L (yj L m r co li qu) i))=true:=by
 obtain ⟨hp,-⟩:=Nb hL.p;have Nf:0<L.p:=by omega
 obtain ⟨Ge,Wd⟩:=yO hL;have Iv:∀ j,Hs L (yj L m r co li qu) i j=Xc L.p ((yj L m r co li qu).getD j []) (qh L.p (Mb L.p).1 L.n i):=fun j=>by
  unfold Hs;exact FR hL.p Ge Wd _ hi
 obtain ⟨F,hF⟩:=zEX ((List.range m.length).map (Hs L (yj L m r co li qu) i));have hFl:F.length=m.length:=by rw [hF];simp
 have hsplit:(List.range (m.length+3)).map (Hs L (yj L m r co li qu) i)=F++[Hs L (yj L m r co li qu) i m.length,Hs L (yj L m r co li qu) i (m.length+1),Hs L (yj L m r co li qu) i (m.length+2)]:=by
  rw [hF,show m.length+3=m.length+1+1+1 by omega,List.range_succ,List.range_succ,List.range_succ]
  simp
 obtain ⟨p0,p1,p2⟩:=zEo L m r co li qu;rw [hsplit,Iv m.length,Iv (m.length+1),Iv (m.length+2),p0,p1,p2];rw [zAy (vW hL h Gf Mh hc hl hq al be) hi (by rw [hFl];exact h.ml) (fun x hx=>by
  rw [hF] at hx;obtain ⟨j,-,rfl⟩:=ld.1 hx;rw [Iv];exact ou Nf _ _) rfl (fun x hx=>by
  simp only [Xg,List.not_mem_nil,or_false] at hx;rcases hx with rfl | rfl | rfl <;> exact ou Nf _ _)]
 refine yb ?_;refine zAB hL (R:=Jf L m r) (by rw [hFl];exact h.ml) (fun j hj=>?_) ?_ ?_ ?_
 ·have Nz:j<m.length:=by rw [<- hFl];exact hj
  rw [hF,Yk,Qa Nz,Iv,zEp hL h _ _ _ Nz]
 ·rw [hFl];exact S9 _ _ _ _ _
 ·rw [hFl];exact tW _ _ _ _ _
 ·refine (uW (by omega) m r qu be _).trans ?_
  rw [vP hL hq];exact Cg.rfl'
def RF (L:Ra) (t:Nat) (a b q:List Nat):Bool:=yv L a b q&&((List.range L.block).all fun k=>decide (Xc L.p q (qh L.p 1 L.block k)=0))&&decide (QF L.p (fun k=>Xc L.p b (qh L.p 1 L.block k)) L.block=t)
theorem J9 {n k:Nat} {f:Nat -> Bool} (hk:k<n) (h:f k=false):(List.range n).all f=false:=by
 rw [Bool.eq_false_iff];intro hh;rw [Xd] at hh;rw [hh k (Uh.2 hk)] at h;cases h
theorem iW {n:Nat} {f:Nat -> Bool} (h:∀ k,k<n -> f k=true):(List.range n).all f=true:=by
 rw [Xd];exact fun k hk=>h k (Uh.1 hk)
theorem L3 (p:Nat) (A:Option vy) (n c x:Nat) (l:List Nat) (w:vw) (hp:Ib p=true) (hl:RWd w [ve A n c] l) :
  vB prog 249 #[fv p,ve A n c,vd vn x] w fun e w'=>e=vl (vd vn ((Xc p l x:Nat):Int)) /\ vA w.1.size w w':=by
 rw [<- xY (by have:=Nb hp;omega)]
 exact Q3 p A n c x l w hp hl
theorem zD4 (L:Ra) (pu Ka al be:Nat) (vars:Int) (A B B1 B2 B3:Option vy) (R c d m1 d1 m2 d2 m3 d3:Nat) (rows:List Ya) (pub a b q:List Nat) (w:vw)
  (hL:Rb L) (hF:cu L pu vars rows) (hr:RSl 3 oe w [ve A R c] rows) (dy:RWd w [ve B pu d] pub)
  (ha:RWd w [ve B1 m1 d1] a) (hb:RWd w [ve B2 m2 d2] b) (hq:RWd w [ve B3 m3 d3] q) :
  vB prog 176 #[vf (Db L),sc L.p (pu:Int) vars (ve A R c),ve B pu d,vf #[vd vn al,vd vn Ka,vd vn be],ve B1 m1 d1,ve B2 m2 d2,ve B3 m3 d3] w fun e w'=>e=vl (.bool (RF L (Et L.p rows.length Ka (1 :: pub) rows 3) a b q)) /\ vA w.1.size w w':=by
 have hp:=Nb hL.p;have HFi:=zH (fun w' (h:vA w.1.size w w')=>TX L B1 B2 B3 m1 d1 m2 d2 m3 d3 a b q w' hL (Bb h ha) (Bb h hb) (Bb h hq) ⟨(Qb ha).1,(Qb hb).1,(Qb hq).1⟩)
 have HPt:=zH (fun w=>Y3 L w hL)
 have HTg:=zH (fun w' (h:vA w.1.size w w')=>by have:=zD5 L pu Ka vars A B R c d rows pub w' hL hF (Dg Bg _ _ _ _ h hr) (Bb h dy);rw [zF8 (by omega)] at this;exact this)
 have HQ:=zH (fun x w' (h:vA w.1.size w w')=>L3 L.p B3 m3 d3 x q w' hL.p (Bb h hq))
 have HB:=zH (fun x w' (h:vA w.1.size w w')=>L3 L.p B2 m2 d2 x b w' hL.p (Bb h hb))
 have HA:=zH (fun a b w=>xm L.p a b w hL.p)
 have gB:=hL.b2;obtain ⟨t,ht⟩:=zEX (Et L.p rows.length Ka (1 :: pub) rows 3);rw [<- ht] at HTg |-;obtain ⟨D,hD⟩:=zEX (qh L.p 1 L.block);obtain ⟨Z,hZ⟩:∃ Z:Nat -> Nat,Z=fun k=>Xc L.p q (D k):=⟨_,rfl⟩
 obtain ⟨S,hS⟩:∃ S:Nat -> Nat,S=QF L.p (fun k=>Xc L.p b (D k)):=⟨_,rfl⟩
 obtain ⟨ans,Cv⟩:=zEX (RF L t a b q);have HE:=zH (show ans=(yv L a b q&&((List.range L.block).all fun k=>decide (Z k=0))&&decide (S L.block=t)) by rw [Cv,hS,hZ,hD];rfl)
 have HZ:=zH (show ∀ k,Xc L.p q (D k)=Z k from fun k=>by rw [hZ])
 have tq:=zH (show S 0=0 by rw [hS];rfl)
 have HS:=zH (show ∀ k,S (k+1)=(S k+Xc L.p b (D k))%L.p from fun k=>by rw [hS];rfl)
 rw [<- Cv];rw [<- hD] at HPt;generalize yv L a b q=b1 at *;clear hp ht hD hZ hS Cv hL hF hr dy ha hb hq;unfold Db sc fv at *;obtain ⟨kl,kt,kx,da,-⟩:=rn w 101 25 136 #[vd vn L.p,vd vq L.block,vd vq L.queries,vd vq L.k,vd vq L.n,vd vq L.secret,vd vq L.rows,vd vq L.a,vd vq L.b,vd vq L.b,vd vq L.b] #[vd vn L.p,vd vq pu,vd vq vars,ve A R c] #[vd vn al,vd vn Ka,vd vn be];go_enter func176,ntmps176
 go_upto_region 1 with fail
 generalize ((w.alloc _).alloc _).alloc _=w1 at kl kt kx da |-;have cl:=kl.cell;go_wp2_with fail
 refine (HFi.out _ da).mono ?_;rintro e w2 ⟨rfl,ta⟩;replace kl:=ia kl ta;replace kt:=ia kt ta;replace kx:=ia kx ta;replace da:=ma da ta;clear ta cl;cases b1
 ·have HF:=zH (show ans=false by rw [HE.out];simp)
  go_wp2;go_ret
  exact ⟨by rw [HF.out];rfl,da⟩
 have cl:=kl.cell;go_upto_region 4 with fail
 have kf:=Blk.new w2 224 #[vd vn L.p];have ja:=(za w2.1.size w2).alloc zR (.cells #[vd vn L.p] 224);replace kl:=ia kl ja;replace kt:=ia kt ja;replace kx:=ia kx ja;replace da:=ma da ja;generalize w2.alloc _=w3 at kl kt kx kf da |-;generalize w2.1.size=gf at kf |-;clear ja cl;have cl:=kl.cell;go_wp2_with fail
 refine (HPt.out _).mono ?_;rintro e w4 ⟨g1,g2,rfl,kp,-,-,-,ta⟩;replace kl:=ia kl ta;replace kt:=ia kt ta;replace kx:=ia kx ta;replace kf:=ia kf ta;replace da:=ma da ta;clear ta cl HPt;go_wp2_with fail
 go_loopw [18,37] (fun y i wr=>∃ k:Nat,k <= L.block /\ i=vd vq k /\ y=vd vn (S k:Int) /\ Hid (∀ j,j<k -> Z j=0) /\ vA w4.1.size w4 wr) (fun _ i _=>L.block-(intOf i).toNat)
 case atStart=>exact ⟨0,Lb _,rfl,by rw [tq.out];rfl,zH fun j h=>absurd h (Nat.not_lt_zero _),za _ _⟩
 case round =>
  obtain ⟨k,hk,rfl,rfl,HZs,hb⟩:=hrel;have Qo:=ia kf hb;have Wk:=ia kl hb;have kt':=ia kt hb;have kx':=ia kx hb;have kp':=ia kp hb;replace da:=ma da hb;have cf:=Qo.cell;have lf:=Qo.lt;by_cases ra:k<L.block
  ·have q1:(k:Int)<L.block:=by omega
   have q2:(0:Int)<=k:=by omega
   have cp:=kp'.cell k;rw [Ff _ ra] at cp;have lp:=kp'.lt;obtain ⟨x,hx⟩:=zEX (D k);obtain ⟨y,hy⟩:=zEX (Xc L.p b x);obtain ⟨z,hz⟩:=zEX (Z k);obtain ⟨s1,yd⟩:=zEX (S (k+1));have Vw:=zH (fun w' h=>by have:=HQ.out (D k) w' h;rw [HZ.out k,<- hz,<- hx] at this;exact this)
   have HB1:=zH (fun w' h=>by have:=HB.out x w' h;rw [<- hy] at this;exact this)
   have xe:=zH (fun w=>by have:=HA.out (S k) y w;rw [hy,hx,<- HS.out k,<- hx,<- hy,<- yd] at this;exact this)
   have HH:=zH (And.intro hz yd);rw [<- hx] at cp;clear hx hy hz yd;generalize S k=sk at *;go_wp2_with fail
   refine (Vw.out _ da).mono ?_;rintro e w5 ⟨rfl,ta⟩;replace Qo:=Qo.below ta Qo.lt;replace da:=ma da ta;replace hb:=ma hb ta;clear ta cf lf cp lp;have cf:=Qo.cell;have lf:=Qo.lt;by_cases h0:z=0
   ·have q3:((z:Int) != 0)=false:=by rw [pk];omega
    have HZ1:=zH (show ∀ j,j<k+1 -> Z j=0 from fun j hj=>by
     by_cases e:j=k
     ·rw [e,<- HH.out.1];exact h0
     ·exact HZs.out j (by omega))
    clear h0;go_upto_region 11 with fail
    refine Cd (Tb) [5,6] [0,1,2,3,4,5,6,7] (by kernel_rfl) (by kernel_rfl) ?_
    refine De (pa) ?_;intro Wc Ha ea;have Ja:=Tf Ha;replace da:=ma da Ja;replace hb:=ma hb Ja;clear Ja;refine Ob ?_;refine Gc (pa) rfl rfl rfl (fun _=>by go_simp <;> rfl) ((HB1.out _ da).mono ?_)
    rintro e w6 ⟨rfl,ta⟩;refine ⟨_,rfl,ta,?_⟩;replace ea:=(pa).trans _ _ _ ea (ta);refine zPU ?_;replace da:=ma da ta;replace hb:=ma hb ta;clear ta;refine Ob ?_;refine Gc (pa) rfl rfl rfl (fun _=>by go_simp <;> rfl) ((xe.out _).mono ?_)
    rintro e w7 ⟨rfl,ta⟩;refine ⟨_,rfl,ta,?_⟩;replace ea:=(pa).trans _ _ _ ea (ta);refine zPU ?_;replace da:=ma da ta;replace hb:=ma hb ta;clear ta;refine Ob ?_;refine Qc ?_;clear ea cf lf;go_wp2
    go_roundw
    case rel=>exact ⟨k+1,by omega,by go_num,by rw [HH.out.2],HZ1,hb⟩
    case measure=>simp [intOf];omega
   ·have q3:((z:Int) != 0)=true:=by rw [Df];omega
    have HF:=zH (show ans=false by rw [HE.out,J9 ra (xb (show ¬Z k=0 by rw [<- HH.out.1];exact h0))];simp)
    clear h0;go_wp2;go_ret
    exact ⟨by rw [HF.out];rfl,da⟩
  ·obtain rfl:k=L.block:=by omega
   have q1:¬((L.block:Int)<L.block):=by omega
   have Tg:=zH (show ans=decide (S L.block=t) by rw [HE.out,iW fun k hk=>yb (HZs.out k hk)];simp)
   have cl:=Wk.cell;have ct:=kt'.cell;have cx:=kx'.cell;generalize S L.block=s at *;go_wp2_with fail
   refine (HTg.out _ da).mono ?_;rintro e w5 ⟨rfl,ta⟩;replace da:=ma da ta;clear ta cl ct cx;by_cases hs:s=t
   ·have q3:((s:Int)==t)=true:=by rw [Hh];omega
    have HF:=zH (show ans=true by rw [Tg.out,yb hs])
    clear hs Tg;go_wp2;go_ret
    exact ⟨by rw [HF.out];rfl,da⟩
   ·have q3:((s:Int)==t)=false:=by rw [pd];omega
    have HF:=zH (show ans=false by rw [Tg.out,xb hs])
    clear hs Tg;go_wp2;go_ret
    exact ⟨by rw [HF.out];rfl,da⟩
def BF (L:Ra) (t:Nat) (cs m:List (List Nat)) (be:Nat):Bool:=decide (kK L.p cs m m.length=t)&&(List.range L.block).all fun k=>decide (Xc L.p (Un L.p L.a L.b (Er (fun i=>(m.getD i []).getD k 0) m.length) be L.b) 0=0)
theorem L9 {n:Nat} {f g:Nat -> Bool} (h:∀ k,k<n -> f k=g k):(List.range n).all f=(List.range n).all g:=by
 rw [Bool.eq_iff_iff,Xd,Xd];exact ⟨fun h1 x hx=>by rw [<- h x (Uh.1 hx)];exact h1 x hx,fun h1 x hx=>by rw [h x (Uh.1 hx)];exact h1 x hx⟩
theorem bN {L:Ra} (hL:Rb L) {m r:List (List Nat)} (h:Zt L m r) (hm:∀ x∈m,∀ y∈x,y<L.p) {i k:Nat} (hi:i<m.length) (hk:k<L.block):Cg L.p (Sc ((Jf L m r).getD i []) ((qh L.p 1 L.block k:Nat):Int)) (((m.getD i []).getD k 0:Nat):Int):=by
 obtain ⟨hp,-⟩:=Nb hL.p;rw [cD hL h hi];have h2:(r.getD i []).length=L.queries:=nE h.rr (by rw [h.rl];exact hi)
 have e:yq L m r i=fA L (m.getD i []) (r.getD i []):=by unfold yq xx fA;rw [h2,<- hL.k]
 rw [e];refine (Dq _).symm.trans (Cg.of_eq ?_);rw [zFn hL (fun j=>zv (by omega) (nE (P:=fun x=>∀ y∈x,y<L.p) hm hi) j) hk]
theorem wt_at {L:Ra} (hL:Rb L) {cs:List (List Nat)} (Gf:∀ x∈cs,x.length=L.block) {j k:Nat} (hj:j<cs.length) (hk:k<L.block):Cg L.p (Sc ((dp L.p cs).getD j []) ((qh L.p 1 L.block k:Nat):Int)) (((cs.getD j []).getD k 0:Nat):Int):=by
 obtain ⟨hlen,t,ht⟩:=oy hL;have yu:L.block=2^L.block.log2:=by rw [ht,Nat.log2_two_pow]
 rw [CV hL Gf hj];unfold Sc Fs;rw [fk,nm,xR];exact (Co (fun i=>Cg.rfl') cL _).trans (eT _ hL.p hlen yu hk)
theorem aV {p:Nat} (a b:List (List Nat)):∀ n,Cg p (kK p a b n:Int) (Na (fun i=>Na (fun k=>(((a.getD i []).getD k 0:Nat):Int)*(((b.getD i []).getD k 0:Nat):Int)) (a.getD i []).length) n)
 | 0=>Cg.of_eq rfl
 | n+1=>(Cg.mod _).trans ((Cg.of_eq (Al _ _)).trans ((aV a b n).add (oR _ _ _)))
theorem u7 {p:Nat} (hp:0<p) (a b:List (List Nat)):∀ n,kK p a b n<p
 | 0=>hp
 | _+1=>ic _ hp
/-- The answers have the right sums GX if the messages pass. -/
theorem zF7 {L:Ra} (hL:Rb L) {cs m r:List (List Nat)} (h:Zt L m r) (hm:∀ x∈m,∀ y∈x,y<L.p) (Gf:∀ x∈cs,x.length=L.block) (Mh:cs.length=m.length) {co li qu:List Nat} (hc:co.length=L.k /\ ∀ y∈co,y<L.p) (hl:li.length=L.k+L.block-2 /\ ∀ y∈li,y<L.p) (hq:qu.length=L.block+2*L.queries-1) (al be t:Nat) :
  RF L t (oz L m r co al) (tx L cs m r li) (ux L m r qu be)=BF L t cs m be:=by
 obtain ⟨hp,-⟩:=Nb hL.p;have Nf:0<L.p:=by omega
 have e1:∀ k,k<L.block -> Xc L.p (ux L m r qu be) (qh L.p 1 L.block k)=Xc L.p (Un L.p L.a L.b (Er (fun i=>(m.getD i []).getD k 0) m.length) be L.b) 0:=fun k hk=>by
  refine Cg.eq (p:=L.p) ?_ (ou Nf _ _) (ou Nf _ _);refine (Dq _).trans ?_;refine (uW (by omega) m r qu be _).trans ?_
  refine Cg.trans ?_ (xP (by omega) h.ml.symm _ be).symm
  have e0:Cg L.p (Sc (ow L qu) ((qh L.p 1 L.block k:Nat):Int)) 0:=by
   rw [vP hL hq];refine (Dq _).symm.trans (Cg.of_eq ?_);rw [zEM hL];rfl
  have ij:=h.ml;refine (e0.add (ui _ fun j hj=>Cg.rfl'.mul (((bN hL h hm (i:=L.a+j) (by omega) hk).mul (bN hL h hm (i:=L.a+L.b+j) (by omega) hk)).less (bN hL h hm (i:=L.a+L.b+L.b+j) (by omega) hk)))).trans (Cg.of_eq ?_)
  rw [Int.zero_add]
 have e2:QF L.p (fun k=>Xc L.p (tx L cs m r li) (qh L.p 1 L.block k)) L.block=kK L.p cs m m.length:=by
  refine Cg.eq (p:=L.p) ?_ (B7 Nf _ _) (u7 Nf _ _ _);refine (TP _ _).trans ?_;refine Cg.trans ?_ (aV _ _ _).symm;refine (ui (g:=fun k=>(Xc L.p (bg L li) (qh L.p 1 L.block k):Int)+Na (fun j=>(((cs.getD j []).getD k 0:Nat):Int)*(((m.getD j []).getD k 0:Nat):Int)) m.length) _ fun k hk=>?_).trans ?_
  ·refine (Dq _).trans ((tW cs m r li _).trans ?_)
   exact (Dq _).symm.add (ui _ fun j hj=>(wt_at hL Gf (by omega) hk).mul (bN hL h hm hj hk))
  ·rw [lK]
   have e3:Cg L.p (Na (fun k=>(Xc L.p (bg L li) (qh L.p 1 L.block k):Int)) L.block) 0:=by
    refine (TP _ _).symm.trans (Cg.of_eq ?_);rw [zCB hL];rfl
   refine (e3.add Cg.rfl').trans ?_;rw [Int.zero_add,CA];refine ui _ fun j hj=>Cg.of_eq ?_
   rw [nE Gf (show j<cs.length by omega)]
 unfold RF BF;rw [vW hL h Gf Mh hc hl hq al be,e2,Bool.true_and,Bool.and_comm]
 congr 1
 exact L9 fun k hk=>by rw [e1 k hk]
theorem QL {α:Type} {l:List α} {i:Nat} (d:α) (h:i<l.length):l.getD i d∈l:=by
 rw [Jb,oc h];exact wg h
theorem RP (f:Nat -> Int) (m:Nat):∀ n,Na f (m+n)=Na f m+Na (fun i=>f (m+i)) n
 | 0=>by rw [Na,Nat.add_zero];omega
 | n+1=>by
  rw [<- Nat.add_assoc,Na,RP f m n,Na];omega
theorem dq {f g:Nat -> Int}:∀ n,(∀ i,i<n -> f i=g i) -> Na f n=Na g n
 | 0,_=>rfl
 | n+1,h=>by rw [Na,Na,dq n fun i hi=>h i (by omega),h n (by omega)]
theorem v7 (f:Nat -> Int) (B:Nat):∀ n,Na (fun r=>Na (fun j=>f (r*B+j)) B) n=Na f (n*B)
 | 0=>by rw [Na,Nat.zero_mul,Na]
 | n+1=>by rw [Na,v7 f B n,Nat.succ_mul,RP]
theorem A7 {f:Nat -> Int} {n m:Nat} (h:n <= m) (h0:∀ q,n <= q -> f q=0):Na f m=Na f n:=by
 obtain ⟨d,rfl⟩:∃ d,m=n+d:=⟨m-n,by omega⟩
 rw [RP,dq (g:=fun _=>0) d fun i _=>h0 _ (by omega),jD]
 omega
def tt (ps:Nat -> Nat):Nat -> Nat
 | 0=>0
 | i+1=>tt ps i+ps i
theorem FJ (B:Nat) (l:Nat -> List Nat) (ps:Nat -> Nat):∀ i,(Pk B l ps i).length=tt ps i
 | 0=>rfl
 | i+1=>by rw [ZK,Kf,FJ B l ps i,tt];simp [Is]
theorem rN {B:Nat} {l:Nat -> List Nat} {ps:Nat -> Nat} {i r:Nat} (h:r<tt ps i):(Pk B l ps (i+1)).getD r []=(Pk B l ps i).getD r []:=by
 rw [ZK,Jb,OD (by rw [FJ];exact h),Jb]
theorem qN {B:Nat} {l:Nat -> List Nat} {ps:Nat -> Nat} {i r:Nat} (h:r<ps i):(Pk B l ps (i+1)).getD (tt ps i+r) []=Bq B (l i) r:=by
 rw [ZK,Jb,Su (by rw [FJ];omega),FJ,DG,Is,Yt,dz h]
 rfl
theorem aL {B:Nat} {v:List Nat} {r j:Nat} (h:j<B):(Bq B v r).getD j 0=v.getD (r*B+j) 0:=by
 unfold Bq;rw [Jb,Yt,dz h]
 rfl
theorem jX (B:Nat) (lu lv:Nat -> List Nat) (ps:Nat -> Nat):∀ i,Na (fun r=>Na (fun k=>((((Pk B lu ps i).getD r []).getD k 0:Nat):Int)*((((Pk B lv ps i).getD r []).getD k 0:Nat):Int)) ((Pk B lu ps i).getD r []).length) (tt ps i) =
  Na (fun i=>Na (fun q=>(((lu i).getD q 0:Nat):Int)*(((lv i).getD q 0:Nat):Int)) (ps i*B)) i
 | 0=>rfl
 | i+1=>by
  rw [tt,RP,Na,<- jX B lu lv ps i]
  congr 1
  ·exact dq _ fun r hr=>by simp only [rN hr]
  ·rw [<- v7]
   refine dq _ fun r hr=>?_
   simp only [qN hr];rw [show (Bq B (lu i) r).length=B by simp [Bq]]
   exact dq _ fun j hj=>by rw [aL hj,aL hj]
def tvI (ws:List Nat) (t:Int × Nat):Int:=if 0 <= t.1 /\ t.1<(ws.length:Int) then (t.2:Int)*((ws.getD t.1.toNat 0:Nat):Int) else 0
theorem NT {p:Nat} (ts:List (Int × Nat)) (ws:List Nat):∀ j,j <= ts.length -> Cg p (Mc p (ts.take j) ws:Int) (Na (fun i=>tvI ws (ts.getD i (0,0))) j)
 | 0,_=>Cg.rfl'
 | j+1,h=>by
  rw [Na,CO p ts ws j (by omega)]
  unfold Xq tvI;split
  ·exact PQ (NT ts ws j (by omega)) _ _
  ·rw [Int.add_zero]
   exact NT ts ws j (by omega)
theorem lZ {p:Nat} (ts:List (Int × Nat)) (ws:List Nat):Cg p (Mc p ts ws:Int) (Na (fun i=>tvI ws (ts.getD i (0,0))) ts.length):=by
 have:=NT (p:=p) ts ws ts.length zR
 rwa [Cp] at this
def oD (pu:Nat) (ws:List Nat) (t:Int × Nat):Int:=if 0 <= t.1-1-(pu:Int) then (t.2:Int)*((ws.getD t.1.toNat 0:Nat):Int) else 0
theorem zGe {pu:Nat} {ws pub:List Nat} (Tz:ws.take (1+pu)=1 :: pub) (hl:1+pu <= ws.length) {t:Int × Nat} (h0:0 <= t.1) (h1:t.1<(ws.length:Int)):tvI ws t=tvI (1 :: pub) t+oD pu ws t:=by
 have Pe:(1 :: pub).length=1+pu:=by rw [<- Tz,List.length_take,Nat.min_eq_left hl]
 unfold tvI oD;rw [Qa ⟨h0,h1⟩,Pe];by_cases h:0 <= t.1-1-(pu:Int)
 ·rw [La (by omega),Qa h,Int.zero_add]
 ·rw [Qa (by omega),La h,Int.add_zero,<- Tz]
  congr 2
  rw [Jb,Jb,List.getElem?_take_of_lt (by omega)]
theorem zF5 {p pu x S:Nat} {ws:List Nat} (hl:ws.length=1+pu+S) {t:Int × Nat} (h1:t.1<(ws.length:Int)):Cg p (Na (fun s=>Fy s pu x t*((ws.getD (1+pu+s) 0:Nat):Int)) S) ((x:Int)*oD pu ws t):=by
 unfold oD;by_cases h:0 <= t.1-1-(pu:Int)
 ·rw [Qa h]
  refine z7 (q:=(t.1-1-(pu:Int)).toNat) (by omega) (fun s _ hs=>?_) ?_
  ·unfold Fy
   rw [La (by omega),Int.zero_mul]
   exact Cg.rfl'
  ·unfold Fy
   rw [Qa (by omega),show 1+pu+(t.1-1-(pu:Int)).toNat=t.1.toNat by omega]
   exact Cg.of_eq (qo _ _ _)
 ·rw [La h,Int.mul_zero]
  refine Cg.of_eq ?_;rw [dq (g:=fun _=>0) S fun s _=>by unfold Fy;rw [La (by omega),Int.zero_mul],jD]
theorem TZ (f:Nat -> Int):∀ n,-(Na f n)=Na (fun i=>-(f i)) n
 | 0=>rfl
 | n+1=>by rw [Na,Na,<- TZ f n];omega
theorem cV (c:Int) (f:Nat -> Int) (n:Nat):Na f n*c=Na (fun i=>f i*c) n:=by
 rw [Yj,Ey];exact dq _ fun i _=>Yj _ _
section
variable {L:Ra} {pu Ka:Nat} {vars:Int} {rows:List Ya} {ws pub:List Nat}
theorem zGv (hV:ox vars rows) (hw:(ws.length:Int)=vars) (Tz:ws.take (1+pu)=1 :: pub) (hl:1+pu <= ws.length) {k i:Nat} (hk:k<3) (hi:i<rows.length) :
  Cg L.p (Mc L.p (Nc (rows.getD i ⟨[],[],[]⟩) k) ws:Int) ((Mc L.p (Nc (rows.getD i ⟨[],[],[]⟩) k) (1 :: pub):Int)+Na (fun t=>oD pu ws ((Nc (rows.getD i ⟨[],[],[]⟩) k).getD t (0,0))) (Nc (rows.getD i ⟨[],[],[]⟩) k).length):=by
 have hr:rows.getD i ⟨[],[],[]⟩∈rows:=QL _ hi;refine (lZ _ _).trans (Cg.trans (Cg.of_eq ?_) ((lZ _ _).symm.add Cg.rfl'));rw [<- lK];refine dq _ fun t ht=>?_
 obtain ⟨a,b⟩:=hV _ hr k hk _ (QL (0,0) ht);exact zGe Tz hl a (by omega)
theorem zFK (hp:1<L.p) (hV:ox vars rows) (hw:(ws.length:Int)=vars) {S:Nat} (hl:ws.length=1+pu+S) :
  Cg L.p (Na (fun s=>(yz L.p pu rows.length Ka rows 3 s:Int)*((ws.getD (1+pu+s) 0:Nat):Int)) S)
   (-(Na (fun k=>Na (fun i=>((Ka^(k*rows.length+i)%L.p:Nat):Int)*Na (fun t=>oD pu ws ((Nc (rows.getD i ⟨[],[],[]⟩) k).getD t (0,0))) (Nc (rows.getD i ⟨[],[],[]⟩) k).length) rows.length) 3)):=by
 refine (ui S fun s _=>(mR hp pu rows.length Ka rows s 3).mul Cg.rfl').trans ?_
 refine (Cg.of_eq (show _=-(Na (fun k=>Na (fun i=>Na (fun s=>yA L.p pu rows.length Ka rows s k i*((ws.getD (1+pu+s) 0:Nat):Int)) S) rows.length) 3) from ?_)).trans (Cg.neg (ui 3 fun k hk=>ui rows.length fun i hi=>?_))
 ·rw [dq (g:=fun s=>-(Na (fun k=>Na (fun i=>yA L.p pu rows.length Ka rows s k i*((ws.getD (1+pu+s) 0:Nat):Int)) rows.length) 3)) S fun s _=>by
   rw [Int.neg_mul,cV]
   congr 1
   exact dq _ fun k _=>cV _ _ _]
  rw [<- TZ]
  congr 1
  rw [CA (fun s k=>Na (fun i=>yA L.p pu rows.length Ka rows s k i*((ws.getD (1+pu+s) 0:Nat):Int)) rows.length) 3 S]
  exact dq _ fun k _=>CA (fun s i=>yA L.p pu rows.length Ka rows s k i*((ws.getD (1+pu+s) 0:Nat):Int)) rows.length S
 ·have hr:rows.getD i ⟨[],[],[]⟩∈rows:=QL _ hi
  rw [Ey];refine (Cg.of_eq (show _=Na (fun t=>Na (fun s=>Fy s pu (Ka^(k*rows.length+i)%L.p) ((Nc (rows.getD i ⟨[],[],[]⟩) k).getD t (0,0))*((ws.getD (1+pu+s) 0:Nat):Int)) S) (Nc (rows.getD i ⟨[],[],[]⟩) k).length from ?_)).trans (ui _ fun t ht=>zF5 hl ?_)
  ·rw [dq (g:=fun s=>Na (fun t=>Fy s pu (Ka^(k*rows.length+i)%L.p) ((Nc (rows.getD i ⟨[],[],[]⟩) k).getD t (0,0))*((ws.getD (1+pu+s) 0:Nat):Int)) (Nc (rows.getD i ⟨[],[],[]⟩) k).length) S fun s _=>by rw [yA,cV]]
   exact CA (fun s t=>Fy s pu (Ka^(k*rows.length+i)%L.p) ((Nc (rows.getD i ⟨[],[],[]⟩) k).getD t (0,0))*((ws.getD (1+pu+s) 0:Nat):Int)) _ S
  ·obtain ⟨-,b⟩:=hV _ hr k hk _ (QL (0,0) ht)
   omega
theorem QN {p k i:Nat} (hi:i<rows.length):(Dh p rows ws k).getD i 0=Mc p (Nc (rows.getD i ⟨[],[],[]⟩) k) ws:=by
 unfold Dh;rw [Jb,Yt,Jb,oc hi]
 rfl
theorem oL {l:List Nat} {i:Nat} (h:l.length <= i):l.getD i 0=0:=by
 rw [Jb,Xr h]
 rfl
theorem zFC (hL:Rb L) (hF:cu L pu vars rows) (hV:ox vars rows) (hw:(ws.length:Int)=vars) (Tz:ws.take (1+pu)=1 :: pub) :
  kK L.p (Xh L pu Ka rows) (tj L rows ws pu) (tj L rows ws pu).length=Et L.p rows.length Ka (1 :: pub) rows 3:=by
 obtain ⟨hp,-⟩:=Nb hL.p;have Ed:1<L.p:=by omega
 have xC:=hF.sec;have Rz:=hF.nr;have Ca:=hL.b1;have hae:=hL.ae;have hbe:=hL.be;have hl:ws.length=1+pu+L.secret:=by omega
 have ha:L.secret <= L.a*L.block:=by
  rw [hae];have:=au (L.secret+L.block-1) L.block;have:=ic (L.secret+L.block-1) (show 0<L.block by omega)
  rw [Fe];omega
 have hb:rows.length <= L.b*L.block:=by
  rw [hbe,Rz];have:=au (rows.length+L.block-1) L.block;have:=ic (rows.length+L.block-1) (show 0<L.block by omega)
  rw [Fe];omega
 refine Cg.eq (p:=L.p) ?_ (u7 (by omega) _ _ _) (gV (by omega) _ _ _ _ _)
 refine (aV _ _ _).trans ?_;have ij:(tj L rows ws pu).length=tt (ef L.a L.b L.b L.b) 4:=by unfold tj Gp;exact FJ _ _ _ 4
 rw [ij];unfold Xh tj Gp;rw [jX];have h0:Na (fun q=>((((List.range L.secret).map (yz L.p pu rows.length Ka rows 3)).getD q 0:Nat):Int)*(((ws.drop (1+pu)).getD q 0:Nat):Int)) (L.a*L.block)=Na (fun s=>(yz L.p pu rows.length Ka rows 3 s:Int)*((ws.getD (1+pu+s) 0:Nat):Int)) L.secret:=by
  rw [A7 ha fun q hq=>by rw [oL (by simp;exact hq)];exact Int.zero_mul _]
  refine dq _ fun s hs=>?_
  congr 2
  ·rw [Jb,Yt,dz hs];rfl
  ·rw [Jb,List.getElem?_drop,Jb]
 have hk:∀ k,k<3 -> Na (fun q=>(((Pg L.p rows.length Ka k).getD q 0:Nat):Int)*(((Dh L.p rows ws k).getD q 0:Nat):Int)) (L.b*L.block)=Na (fun i=>((Ka^(k*rows.length+i)%L.p:Nat):Int)*(Mc L.p (Nc (rows.getD i ⟨[],[],[]⟩) k) ws:Int)) rows.length:=fun k _=>by
  rw [A7 hb fun q hq=>by rw [oL (l:=Pg L.p rows.length Ka k) (by simp [Pg];exact hq)];exact Int.zero_mul _]
  refine dq _ fun i hi=>?_
  rw [QN hi]
  congr 2
  unfold Pg;rw [Jb,Yt,dz hi]
  rfl
 refine (Cg.of_eq (show _=Na (fun s=>(yz L.p pu rows.length Ka rows 3 s:Int)*((ws.getD (1+pu+s) 0:Nat):Int)) L.secret+Na (fun k=>Na (fun i=>((Ka^(k*rows.length+i)%L.p:Nat):Int)*(Mc L.p (Nc (rows.getD i ⟨[],[],[]⟩) k) ws:Int)) rows.length) 3 from ?_)).trans ?_
 ·have e4:∀ F:Nat -> Int,Na F 4=F 0+(F 1+F 2+F 3):=fun F=>by simp only [Na];omega
  have e3:∀ F:Nat -> Int,Na F 3=F 0+F 1+F 2:=fun F=>by simp only [Na];omega
  rw [e4,e3];have e:∀ {a b c d a' b' c' d':Int},a=a' -> b=b' -> c=c' -> d=d' -> a+(b+c+d)=a'+(b'+c'+d'):=fun h1 h2 h3 h4=>by rw [h1,h2,h3,h4]
  exact e h0 (hk 0 (by decide)) (hk 1 (by decide)) (hk 2 (by decide))
 ·refine ((zFK Ed hV hw hl).add (ui 3 fun k hk=>ui rows.length fun i hi=>Cg.rfl'.mul (zGv hV hw Tz (by omega) hk hi))).trans ((Cg.of_eq ?_).trans (fV rows.length Ka (1 :: pub) rows 3).symm)
  have e:Na (fun k=>Na (fun i=>((Ka^(k*rows.length+i)%L.p:Nat):Int)*((Mc L.p (Nc (rows.getD i ⟨[],[],[]⟩) k) (1 :: pub):Int)+Na (fun t=>oD pu ws ((Nc (rows.getD i ⟨[],[],[]⟩) k).getD t (0,0))) (Nc (rows.getD i ⟨[],[],[]⟩) k).length)) rows.length) 3 =
    Na (fun k=>Na (fun i=>lD L.p rows.length Ka (1 :: pub) rows k i) rows.length) 3+Na (fun k=>Na (fun i=>((Ka^(k*rows.length+i)%L.p:Nat):Int)*Na (fun t=>oD pu ws ((Nc (rows.getD i ⟨[],[],[]⟩) k).getD t (0,0))) (Nc (rows.getD i ⟨[],[],[]⟩) k).length) rows.length) 3:=by
   rw [<- lK];refine dq _ fun k _=>?_
   rw [<- lK];exact dq _ fun i _=>Int.mul_add _ _ _
  rw [e];generalize Na (fun k=>Na (fun i=>lD L.p rows.length Ka (1 :: pub) rows k i) rows.length) 3=x
  generalize Na (fun k=>Na (fun i=>((Ka^(k*rows.length+i)%L.p:Nat):Int)*Na (fun t=>oD pu ws ((Nc (rows.getD i ⟨[],[],[]⟩) k).getD t (0,0))) (Nc (rows.getD i ⟨[],[],[]⟩) k).length) rows.length) 3=y
  omega
theorem QT {k j:Nat} (hk:k<3) (hj:j<L.b):(tj L rows ws pu).getD (L.a+k*L.b+j) []=Bq L.block (Dh L.p rows ws k) j:=by
 have e1:tt (ef L.a L.b L.b L.b) 1=L.a:=Mk _;have e2:tt (ef L.a L.b L.b L.b) 2=L.a+L.b:=by show 0+L.a+L.b=_;omega
 have e3:tt (ef L.a L.b L.b L.b) 3=L.a+L.b+L.b:=by show 0+L.a+L.b+L.b=_;omega
 unfold tj Gp;rcases (show k=0 \/ k=1 \/ k=2 by omega) with rfl | rfl | rfl
 ·rw [rN (by omega),rN (by omega),show L.a+0*L.b+j=tt (ef L.a L.b L.b L.b) 1+j by omega,qN hj]
  rfl
 ·rw [rN (by omega),show L.a+1*L.b+j=tt (ef L.a L.b L.b L.b) 2+j by omega,qN hj]
  rfl
 ·rw [show L.a+2*L.b+j=tt (ef L.a L.b L.b L.b) 3+j by omega,qN hj]
  rfl
theorem zFE (hL:Rb L) (hs:∀ r∈rows,Mc L.p r.a ws*Mc L.p r.b ws%L.p=Mc L.p r.c ws) (be:Nat) {k:Nat} (hk:k<L.block) :
  Xc L.p (Un L.p L.a L.b (Er (fun i=>((tj L rows ws pu).getD i []).getD k 0) (tj L rows ws pu).length) be L.b) 0=0:=by
 obtain ⟨hp,-⟩:=Nb hL.p;have ij:(tj L rows ws pu).length=L.a+L.b+L.b+L.b:=by
  unfold tj Gp;rw [FJ];show 0+L.a+L.b+L.b+L.b=_
  omega
 refine Cg.eq (p:=L.p) ?_ (ou (by omega) _ _) (by omega)
 refine (xP (by omega) ij.symm _ be).trans ?_
 refine (ui (g:=fun _=>0) L.b fun j hj=>?_).trans (Cg.of_eq (jD _))
 have r0:=QT (L:=L) (rows:=rows) (ws:=ws) (pu:=pu) (k:=0) (by decide) hj
 have r1:=QT (L:=L) (rows:=rows) (ws:=ws) (pu:=pu) (k:=1) (by decide) hj
 have r2:=QT (L:=L) (rows:=rows) (ws:=ws) (pu:=pu) (k:=2) (by decide) hj
 rw [show L.a+0*L.b+j=L.a+j by omega] at r0
 rw [show L.a+1*L.b+j=L.a+L.b+j by omega] at r1
 rw [show L.a+2*L.b+j=L.a+L.b+L.b+j by omega] at r2
 simp only [r0,r1,r2];rw [aL hk,aL hk,aL hk];refine (Cg.rfl'.mul (show Cg L.p _ 0 from ?_)).trans (Cg.of_eq (Int.mul_zero _))
 by_cases hq:j*L.block+k<rows.length
 ·rw [QN hq,QN hq,QN hq]
  have h:=hs _ (QL (⟨[],[],[]⟩:Ya) hq);show Cg L.p ((Mc L.p (rows.getD (j*L.block+k) ⟨[],[],[]⟩).a ws:Int)*(Mc L.p (rows.getD (j*L.block+k) ⟨[],[],[]⟩).b ws:Int)-(Mc L.p (rows.getD (j*L.block+k) ⟨[],[],[]⟩).c ws:Int)) 0
  rw [<- h];exact (Cg.rfl'.less ((Cg.mod _).trans (Cg.of_eq (ig _ _)))).trans (Cg.of_eq (Int.sub_self _))
 ·rw [oL (l:=Dh L.p rows ws 0) (by simp [Dh];omega),oL (l:=Dh L.p rows ws 1) (by simp [Dh];omega),oL (l:=Dh L.p rows ws 2) (by simp [Dh];omega)]
  exact Cg.rfl'
theorem zFD (hL:Rb L) (hF:cu L pu vars rows) (hV:ox vars rows) (hw:(ws.length:Int)=vars) (Tz:ws.take (1+pu)=1 :: pub)
  (hs:∀ r∈rows,Mc L.p r.a ws*Mc L.p r.b ws%L.p=Mc L.p r.c ws) (be:Nat) :
  BF L (Et L.p rows.length Ka (1 :: pub) rows 3) (Xh L pu Ka rows) (tj L rows ws pu) be=true:=by
 unfold BF;rw [Cc];exact ⟨yb (zFC hL hF hV hw Tz),iW fun k hk=>yb (zFE hL hs be hk)⟩
end
theorem Z3 {w:vw} {g:Nat} {O:Ga} {F:Nat -> Prop} (h:OrcAt w g O F) (st ct:Nat) (Gd:st<18446744073709551616) (L:Ra) (hL:Rb L) (P:ProofR) (S:PS) (hP:Gj w P S) (hO:Lc O 800000) (hlen:(P.code++P.linear++P.quad).length <= 100000) :
  vB prog 66 #[.pointer (vE ⟨g,0,vD⟩),vf #[vd vn st,vd vn ct],vf (Db L),vf (Ld P S)] w fun e w'=>∃ gr d F',e=vl (ve (vE ⟨gr,0,vD⟩) L.queries d) /\
   OrcAt w' g (Cj ⟨O,st,ct⟩ (P.code++P.linear++P.quad) L.queries) F' /\ Moved F F' w w' /\ w'.ownsRow w.1.size 3 1 (ve (vE ⟨gr,0,vD⟩) L.queries d) L.queries (Jk (Nn (Zk ⟨O,st,ct⟩ (P.code++P.linear++P.quad) L.n L.queries))) /\ ¬F' gr:=by
 obtain ⟨ks,kl,kp,da,tb⟩:=rn w 129 101 46 #[vd vn st,vd vn ct] (Db L) (Ld P S);obtain ⟨q1,-,-,e1,r1⟩:=Qb hP.code;obtain ⟨q2,-,-,e2,r2⟩:=Qb hP.linear;obtain ⟨q3,-,-,e3,r3⟩:=Qb hP.quad;have hle:S.n1+S.n2+S.n3 <= 100000:=by simp at hlen;omega
 obtain ⟨all,ai⟩:=zEX (P.code++P.linear++P.quad);have En:∀ x∈all,x<18446744073709551616:=fun x hx=>by
  rw [ai,uq,uq] at hx;rcases hx with (hx | hx) | hx
  ·exact e1 x hx
  ·exact e2 x hx
  ·exact e3 x hx
 have hqn:L.queries <= L.n:=by have:=hL.nk;have:=hL.k;omega
 have Wd:=hL.n2;have Cv:=h.ok.ans;obtain ⟨IF,EL⟩:=zEX (Pd O 18 (st :: 3 :: all));obtain ⟨O2,sE⟩:=zEX (Dc O 18 (st :: 3 :: all));have tQ:=zH (show IF<18446744073709551616 by rw [EL];exact zq (Iz Cv 18 _))
 have Hk:=zH (show Lc O2 900000 by rw [sE];exact Ue (Yp hO 18 _) (by decide))
 have hT1:Cj ⟨O,st,ct⟩ (P.code++P.linear++P.quad) L.queries=Pb O2 19 (Yi IF 0 L.queries):=by rw [<- ai,sE,EL];rfl
 have hT2:Zk ⟨O,st,ct⟩ (P.code++P.linear++P.quad) L.n L.queries=xr O2 IF 0 L.n L.queries:=by rw [<- ai,sE,EL];rfl
 rw [hT1,hT2];have Xm:=zH EL;have Rt:=zH sE;have Xj:=zH ai;have Xl:=zH En;have Fg:=zH (show all.length <= 100000 by rw [ai];exact hlen)
 have Vm:=zH q1;have HN2:=zH q2;have HN3:=zH q3;have R1:=zH r1;have R2:=zH r2;have R3:=zH r3;have Nr:=zH h;have HO:=zH hO;have Wg:=zH Gd;have HQN:=zH hqn;have HN:=zH Wd;have nF:∀ b,w.1.size <= b -> ¬F b:=fun b hb e=>by have:=h.lt b e;omega
 clear hT1 hT2 EL sE Cv Wd hqn En ai hlen q1 q2 q3 e1 e2 e3 r1 r2 r3 hP hL hO Gd h tb;unfold Db Ld at *;go_enter func66,ntmps66
 go_upto_region 1 with fail
 generalize ((w.alloc _).alloc _).alloc _=w1 at ks kl kp da |-;have cp:=kp.cell;have lp:=kp.lt;have yd:=da.size;have UD:=(za w1.1.size w1).alloc zR (.cells #[] 22);have yy:=TJ w1 22 (oa w1.1.size);have xh:=(R1.out.below da).below UD;go_wp2_with (at_builtin;refine oh rfl _ _ rfl Hp rfl yy rfl xh (Ck _) (by omega) (by simp) ?_)
 intro v2 w2 QJ Ss hk2;have Aa:=UD.trans (Sl yy Ss (by simp))
 replace ks:=ia ks Aa;replace kl:=ia kl Aa;replace kp:=ia kp Aa;replace da:=ma da Aa;clear cp yy xh UD Ss hk2;have cp:=kp.cell;have Uz:=R2.out.below da;go_wp2_with (at_builtin;refine oh rfl _ _ rfl Hp rfl QJ rfl Uz (Ck _) (by omega) (by exact Aa.size) ?_)
 intro v3 w3 RJ Ph hk3;have Ua:=Sl QJ Ph Aa.size;have lp0:w.1.size<w1.1.size:=by omega
 have lp1:w.1.size+1<w1.1.size:=by omega
 have ks3:=ks.below Ua lp0;have Vq:=kl.below Ua lp1;have kp3:=kp.below Ua lp;have nS:=da.trans (Ua.mono yd);have sz3:=jb Aa.size Ua.size;clear cp QJ Uz Ph hk3 ks kl kp da Ua;have cp:=kp3.cell;have dO:=R3.out.below nS;go_wp2_with (at_builtin;refine oh rfl _ _ rfl Hp rfl RJ rfl dO (Ck _) (by omega) sz3 ?_)
 intro v4 w4 Vj Mp hk4;have zb:=Sl RJ Mp sz3;have ks4:=ks3.below zb lp0;have Uv:=Vq.below zb lp1;have hb04:=nS.trans (zb.mono yd);have Pn:w4.ownsRow w1.1.size 22 1 v4 (S.n1+S.n2+S.n3) (Ia all):=by
  rw [Xj.out]
  simpa [Ia,fB] using Vj
 obtain ⟨nv,hnv⟩:=zEX (S.n1+S.n2+S.n3);rw [<- hnv] at Pn;have hv4:∃ A' c',v4=ve A' nv c':=by obtain ⟨A',c',e,-⟩:=ud Pn;exact ⟨A',c',e⟩
 obtain ⟨Av,cv,rfl⟩:=hv4;have HKR:=zH (iI Pn Xl.out);have HB:=zH hb04;have nW0:=nF w.1.size zR;have nW1:=nF (w.1.size+1) (Nat.le_add_right _ _);obtain ⟨NQ,Zh⟩:=zEX (w4.1.size);have Ci:=zH Zh;have l0:w.1.size<NQ:=by rw [Zh];exact ks4.lt
 have l1:w.1.size+1<NQ:=by rw [Zh];exact Uv.lt
 have cs:=ks4.cell;have cl:=Uv.cell;clear cp RJ dO Mp hk4 zb ks3 Vq kp3 nS Vj Pn ks4 Uv hb04 Aa yd sz3 lp lp0 lp1 hnv Zh hle;go_upto_region 4 with fail
 have NM:Hid (Tm F NQ F w4):=zH (by rw [Ci.out];exact zBI (Nr.out.below HB.out).lt)
 refine tK (F) (F) (NQ) [4,9,15] [0,1,2,3,5,6,7,8,4,9,10,11,12] [(13,129,#[vd vn 0,vd vn 0])] [14,15] (by kernel_rfl) (Cf.2 ⟨⟨_,rfl,rfl,fun a w=>by go_simp <;> rfl⟩,iB _⟩) (by kernel_rfl) ?_
 refine wK ?_;intro Wc Ha ea;have mc:Hid (Tm F NQ F Wc):=zH (by rw [Ha.out];exact ⟨NM.out.size,NM.out.lt,NM.out.old⟩)
 have H8:=zH (show OrcAt Wc g O F by rw [Ha.out];exact (Nr.out.below HB.out).drew)
 have M8:=zH (show Moved F F w Wc by rw [Ha.out];exact Zv (zd HB.out))
 have OM:=zH (show Me _ Wc _ _ by rw [Ha.out];exact Vv HKR.out (w':=w4.drew) zR fun _ _ _=>rfl)
 clear Ha NM HKR;refine Gw ?_;refine uK (f:=?_) (vals:=?_) rfl rfl rfl mc ?_ (fun wF Ze=>?_)
 rotate_left 3
 replace H8:=zH (H8.out.below Ze);replace OM:=zH (Mm OM.out Ze);replace M8:=zH (M8.out.trans (zd Ze));replace ea:=(Jc F NQ).trans _ _ _ ea (Mj Ze mc.out.size);replace mc:=zH (ru mc.out Ze);refine (dV H8.out st ct 3 Av nv cv all OM.out Fg.out Wg.out (by decide) (Ue HO.out (by decide))).mono ?_
 rotate_left
 ·intro w_;go_simp <;> rfl
 rintro e w9 ⟨rfl,F4,h9,m9⟩;clear Ze;refine ⟨_,F4,rfl,m9,h9.lt,?_⟩;replace ea:=(Jc F NQ).trans _ _ _ ea (fH mc.out (m9));replace mc:=zH (mJ mc.out (m9) (h9.lt));refine zPU ?_;rw [<- Rt.out] at h9;simp only [<- Xm.out];replace H8:=zH h9;replace M8:=zH (M8.out.trans m9);clear h9 m9 OM;refine Gw ?_;refine uK (f:=?_) (vals:=?_) rfl rfl rfl mc ?_ (fun wF Ze=>?_)
 rotate_left 3
 replace H8:=zH (H8.out.below Ze);replace M8:=zH (M8.out.trans (zd Ze));replace ea:=(Jc F NQ).trans _ _ _ ea (Mj Ze mc.out.size);replace mc:=zH (ru mc.out Ze);refine (zEq H8.out IF 0 L.n L.queries HN.out HQN.out tQ.out (by decide) Hk.out).mono ?_
 rotate_left
 ·intro w_;go_simp <;> rfl
 rintro e GA ⟨gr,dr,F5,rfl,h10,Pm,W1,nr5⟩;clear Ze;refine ⟨_,F5,rfl,Pm,h10.lt,?_⟩;replace ea:=(Jc F NQ).trans _ _ _ ea (fH mc.out (Pm));replace mc:=zH (mJ mc.out (Pm) (h10.lt));refine zPU ?_;have OW:=zH (Xk W1 M8.out.size);replace H8:=zH h10;replace M8:=zH (M8.out.trans Pm);clear h10 Pm W1;refine Gw ?_;refine vK [(vE 11,13)] rfl mc (fun Cz wE Te Jo=>?_)
 have cH:=Jo.blk _ (.head _) rfl;clear Jo;unfold Ah Sn;simp only [List.foldl];dsimp only at cH
 generalize Cz 13=g13 at cH  |-;obtain ⟨ny,wJ,fF⟩:=cH;replace H8:=zH (H8.out.below Te);replace M8:=zH (M8.out.trans (zd Te));replace OW:=zH (Xb OW.out Te zR);replace ea:=(Jc F NQ).trans _ _ _ ea (Mj Te mc.out.size);replace mc:=zH (ru mc.out Te)
 refine zPU ?_
 have cE0:=ny.cell 0;have cE1:=ny.cell 1;have fE:=ny.frozen;have lE:w.1.size <= g13:=by omega
 refine Ir ?_;refine Ye (Jc F NQ) rfl rfl rfl ?_;go_simp;refine ⟨Mj ((mE _ _ wJ).trans (mE _ _ wJ)) zR,?_⟩
 refine zPU ?_
 refine Qc ?_;have OWE:=zH (L2 OW.out ny (by decide))
 have Pa:gr≠g13:=fun e=>OWE.out gr rfl (by rw [e])
 have M9:=tg (tg M8.out lE 0 (vd vn IF)) lE 1 (vd vn L.queries);have H9:=(H8.out.set fF (vd vn IF) (i:=0)).set fF (vd vn L.queries) (i:=1);have OW9:=qi OW.out (u:=(wE.setCell ⟨g13,0,vD⟩ (vd vn IF)).setCell ⟨g13,1,vD⟩ (vd vn L.queries)) fun b hb=>by
  obtain rfl:gr=b:=db hb;rw [Uf _ ⟨g13,1,vD⟩ _ gr Pa,Uf _ ⟨g13,0,vD⟩ _ gr Pa]
 generalize ((wE.setCell ⟨g13,0,vD⟩ (vd vn IF)).setCell ⟨g13,1,vD⟩ (vd vn L.queries))=wZ at M9 H9 OW9 |-;clear cE0 cE1 fE ea;go_wp2;go_ret
 exact ⟨gr,dr,F5,rfl,H9,M9,OW9,nr5⟩
theorem zFJ (O:Ga) (st ct root:Nat):(te ⟨O,st,ct⟩ root).O=Dc (Dc (Dc (Dc O 18 [st,2,root]) 19 [Pd O 18 [st,2,root],0]) 19 [Pd O 18 [st,2,root],1]) 19 [Pd O 18 [st,2,root],2]:=rfl
theorem aP {O:Ga} {k:Nat} (h:Lc O k) (st ct root:Nat):Lc (te ⟨O,st,ct⟩ root).O (k+4):=by
 rw [zFJ];exact Yp (Yp (Yp (Yp h 18 _) 19 _) 19 _) 19 _
theorem zDM {w:vw} {g:Nat} {O:Ga} {F K:Nat -> Prop} (h:OrcAt w g O F) (L:Ra) (j:Nat) (hL:Rb L) (hn:L.n=2^j) (hj:j <= 10) (uc:L.p<18446744073709551616) (p:Nat) (pub:Nat) (vars:Int) (T B:Option vy) (R cT m d:Nat) (rows:List Ya) (l:List Nat) (P:ProofR) (S:PS)
  (hr:RSl 3 oe w [ve T R cT] rows) (hD:cG p (pub:Int) vars rows) (ib:Zc p (pub:Int) vars rows=true) (hl:RWd w [ve B m d] l) (hP:Hd K w fun u=>Gj u P S) (hK:∀ b,K b -> ¬F b) (hO:Lc O 700000)
  (hv:Rn L j P=true) (hm:m=pub) (Pz:m <= 90000) (Gb:l.all (fun x=>decide (x<L.p))=true) (hlen:(P.code++P.linear++P.quad).length <= 100000) (sC:P.root<18446744073709551616) :
  vB prog 175 #[.pointer (vE ⟨g,0,vD⟩),vf (Db L),sc p (pub:Int) vars (ve T R cT),ve B m d,vf (Ld P S)] w fun e w' =>
   ∃ gr dd F',e=vl (.tuple #[vf #[vd vn ((Si (qe O L (Xf p (pub:Int) vars rows) l) L.p P.root).al:Int),vd vn ((Si (qe O L (Xf p (pub:Int) vars rows) l) L.p P.root).rh:Int),vd vn ((Si (qe O L (Xf p (pub:Int) vars rows) l) L.p P.root).be:Int)],ve (vE ⟨gr,0,vD⟩) L.queries dd]) /\
    OrcAt w' g (Cj (te (qe O L (Xf p (pub:Int) vars rows) l) P.root) (P.code++P.linear++P.quad) L.queries) F' /\ Moved F F' w w' /\
    w'.ownsRow w.1.size 3 1 (ve (vE ⟨gr,0,vD⟩) L.queries dd) L.queries (Jk (Nn (Zk (te (qe O L (Xf p (pub:Int) vars rows) l) P.root) (P.code++P.linear++P.quad) L.n L.queries))) /\ ¬F' gr:=by
 obtain ⟨kl,kt,kp,kr,da,tb⟩:=VK w 101 25 46 136 (Db L) #[vd vn p,vd vq pub,vd vq vars,ve T R cT] (Ld P S) #[vd vn 0,vd vn 0,vd vn 0];have HV:=zH (fun w1 (hb:vA w.1.size w w1)=>by have:=p4 L j P S w1 hL hn hj (uk hP (ng hb));rw [hv] at this;exact this)
 have HBl:=zH (fun w1 (hb:vA w.1.size w w1)=>by have:=ZQ B m d l L.p w1 (Bb hb hl);exact this)
 rw [Gb] at HBl;obtain ⟨dg,Lz⟩:=zEX (Xf p (pub:Int) vars rows);obtain ⟨s1,yd⟩:=zEX (qe O L dg l);have h10:s1.ct=0:=by rw [yd];rfl
 have fO:s1.st<18446744073709551616:=by rw [yd];exact zq (Iz h.ok.ans 18 _)
 have QH:Lc s1.O 700001:=by rw [yd];exact Yp hO 18 _
 have jo:=zH (fun w1 (hb:vA w.1.size w w1)=>by have:=C3 (h.below hb) L hL p (pub:Int) vars T B R cT m d rows l (Dg Bg _ _ _ _ hb hr) hD ib (Bb hb hl) (Ue hO (by decide)) (by rw [<- (Qb hl).1];exact Pz);rw [<- Lz,<- yd] at this;exact this)
 rw [<- Lz,<- yd];have Nf:0<L.p:=by have:=Nb hL.p;omega
 have Nr:=zH h;have HP:=zH hP;have HK:=zH hK;have pq:=zH hL;have Vg:=zH (And.intro h10 (And.intro fO QH));have mo:=zH (And.intro Nf (And.intro uc sC));have HLN:=zH hlen;have HS3:=zH (And.intro (show (te s1 P.root).st<18446744073709551616 from zq (Iz (by rw [yd];exact TN h.ok.ans 18 _) 18 _)) (show Lc (te s1 P.root).O 800000 from Ue (aP (ct:=s1.ct) QH s1.st P.root) (by decide)))
 have nF:∀ b,w.1.size <= b -> ¬F b:=fun b hb e=>by have:=h.lt b e;omega
 subst hm;obtain ⟨s2,re⟩:=zEX (te s1 P.root);obtain ⟨ch,Tx⟩:=zEX (Si s1 L.p P.root);have fp:=zH (show Si ⟨s1.O,s1.st,0⟩ L.p P.root=ch from Tx.symm)
 have Xm:=zH (show te ⟨s1.O,s1.st,0⟩ P.root=s2 from re.symm)
 have HS2':=zH re;rw [<- re,<- Tx];rw [<- re] at HS3;clear re Tx;clear h hL hn hj uc hr hD ib hl hP hK hO hv Pz Gb hlen sC Lz yd h10 fO QH Nf tb;unfold Db Ld sc at *;have d1:((m:Int)!=m)=false:=by simp
 go_enter func175,ntmps175
 go_upto_region 1 with fail
 generalize (((w.alloc _).alloc _).alloc _).alloc _=w1 at kl kt kp kr da |-;have cl:=kl.cell;have cp:=kp.cell;go_wp2_with fail
 refine (HV.out w1 da).mono ?_;rintro e w2 ⟨rfl,Aa⟩;replace kl:=ia kl Aa;replace kt:=ia kt Aa;replace kp:=ia kp Aa;replace kr:=ia kr Aa;replace da:=ma da Aa;clear cl cp Aa;have ct:=kt.cell;have cl:=kl.cell;go_wp2_with fail
 refine (HBl.out w2 da).mono ?_;rintro e _ ⟨rfl,rfl⟩;obtain ⟨NQ,Zh⟩:=zEX (w2.1.size);have l0:w.1.size<NQ:=by rw [Zh];exact kl.lt
 have l1:w.1.size+1<NQ:=by rw [Zh];exact kt.lt
 have l2:w.1.size+2<NQ:=by rw [Zh];exact kp.lt
 have n0:=nF w.1.size zR;have n1:=nF (w.1.size+1) (Nat.le_add_right _ _);have n2:=nF (w.1.size+2) (Nat.le_add_right _ _);have cl:=kl.cell;have ct:=kt.cell;have cp:=kp.cell;have Ci:=zH Zh;have KL:=zH kl;have KP:=zH kp;have KR:=zH kr;have HB:=zH da;clear Zh kl kt kp kr da;go_upto_region 3 with fail
 refine tK (F) (F) (NQ) [5,9,15,16] [0,1,2,3,4,6,7,8,5,9,10,11,12] [(13,136,#[vd vn 0,vd vn 0,vd vn 0]),(14,129,#[vd vn 0,vd vn 0])] [15,16] (by kernel_rfl) (Cf.2 ⟨⟨_,rfl,rfl,fun a w=>by go_simp <;> rfl⟩,Cf.2 ⟨⟨_,rfl,rfl,fun a w=>by go_simp <;> rfl⟩,iB _⟩⟩) (by kernel_rfl) ?_
 refine wK ?_;intro Wc Ha ea;have Sg:=zH (show vA w.1.size w Wc by rw [Ha.out];exact HB.out.drew)
 have mc:Hid (Tm F NQ F Wc):=zH (by rw [Ha.out,Ci.out];exact ⟨zR,(Nr.out.below HB.out).lt,fun _ _ h=>h⟩)
 have M8:=zH (show Moved F F w2 Wc by rw [Ha.out];exact Zv (zd (za _ _)))
 clear Ha;refine Gw ?_;refine uK (f:=?_) (vals:=?_) rfl rfl rfl mc ?_ (fun wF Ze=>?_)
 rotate_left 3
 replace Sg:=zH (ma Sg.out Ze);replace M8:=zH (M8.out.trans (zd Ze));replace ea:=(Jc F NQ).trans _ _ _ ea (Mj Ze mc.out.size);replace mc:=zH (ru mc.out Ze);refine (jo.out wF Sg.out).mono ?_
 rotate_left
 ·intro w_;go_simp <;> rfl
 rintro e wA ⟨rfl,F1,h1,m1⟩;clear Ze;refine ⟨_,F1,rfl,m1,h1.lt,?_⟩;replace ea:=(Jc F NQ).trans _ _ _ ea (fH mc.out (m1));replace mc:=zH (mJ mc.out (m1) (h1.lt));refine zPU ?_;have H8:=zH h1;replace M8:=zH (M8.out.trans m1);clear h1 m1 Sg;refine Gw ?_;refine uK (f:=?_) (vals:=?_) rfl rfl rfl mc ?_ (fun wF Ze=>?_)
 rotate_left 3
 replace H8:=zH (H8.out.below Ze);replace M8:=zH (M8.out.trans (zd Ze));replace ea:=(Jc F NQ).trans _ _ _ ea (Mj Ze mc.out.size);replace mc:=zH (ru mc.out Ze);refine (G3 H8.out s1.st 0 Vg.out.2.1 L mo.out.1 mo.out.2.1 P.root mo.out.2.2 (Ue Vg.out.2.2 (by decide))).mono ?_
 rotate_left
 ·intro w_;go_simp <;> rfl
 rintro e wB ⟨rfl,F2,h2,m2⟩;clear Ze;refine ⟨_,F2,rfl,m2,h2.lt,?_⟩;replace ea:=(Jc F NQ).trans _ _ _ ea (fH mc.out (m2));replace mc:=zH (mJ mc.out (m2) (h2.lt));refine zPU ?_;rw [Xm.out] at h2;simp only [fp.out,Xm.out];replace H8:=zH h2;replace M8:=zH (M8.out.trans m2);clear h2 m2;refine Gw ?_;refine vK [(vE 12,13),(vE 13,14)] rfl mc (fun Cz wE Te Jo=>?_)
 have cH:=Jo.blk _ (.head _) rfl;have JR:=Jo.blk _ (.tail _ (.head _)) rfl;have LJ:=Jo.dif _ (.head _) _ (.tail _ (.head _)) rfl rfl (by decide)
 clear Jo;unfold Ah Sn;simp only [List.foldl];dsimp only at cH JR LJ
 generalize Cz 13=g13 at cH LJ |-;obtain ⟨ny,wJ,fF⟩:=cH;generalize Cz 14=g14 at JR LJ |-;obtain ⟨Zz,YN,iO⟩:=JR;replace H8:=zH (H8.out.below Te);replace M8:=zH (M8.out.trans (zd Te));replace ea:=(Jc F NQ).trans _ _ _ ea (Mj Te mc.out.size);replace mc:=zH (ru mc.out Te)
 refine zPU ?_
 have ML:w2.1.size <= g13:=by rw [<- Ci.out];exact wJ
 have BO:w2.1.size <= g14:=by rw [<- Ci.out];exact YN
 have KRL:=zH (show w.1.size+3<g13 /\ w.1.size+3<g14 from ⟨Sd KR.out.lt ML,Sd KR.out.lt BO⟩)
 have c13:=ny.cell;have f13:=ny.frozen;refine Ir ?_;refine Ye (Jc F NQ) rfl rfl rfl ?_;go_simp;refine ⟨Mj (QU wJ [vd vn ch.al,vd vn ch.rh,vd vn ch.be] 0 _) zR,?_⟩
 refine zPU ?_
 have pO:=FF [vd vn ch.al,vd vn ch.rh,vd vn ch.be] ny rfl;have Uq:=(fD (g:=g13) (b:=g14) (fun e=>LJ e.symm) [vd vn ch.al,vd vn ch.rh,vd vn ch.be] 0 wE).trans Zz
 simp only [Wn,Mk,Nat.reduceAdd] at pO Uq;have h9:=zH (((H8.out.set fF (vd vn ch.al) (i:=0)).set fF (vd vn ch.rh) (i:=1)).set fF (vd vn ch.be) (i:=2));have m9:=zH (tg (tg (tg M8.out ML 0 (vd vn ch.al)) ML 1 (vd vn ch.rh)) ML 2 (vd vn ch.be));generalize vF (vF (vF wE _ _) _ _) _ _=wG at pO Uq h9 m9 |-;have qO:Blk wG g14 _ _:=Uq;have c14:=qO.cell;have f14:=qO.frozen;have K13:=zH pO;clear c13 f13 ny Zz pO Uq ea mc H8 M8 Te;have ea:=(Jc F NQ).refl wG;refine Ir ?_;refine Ye (Jc F NQ) rfl rfl rfl ?_;go_simp;refine ⟨Mj ((mE _ _ YN).trans (mE _ _ YN)) zR,?_⟩
 refine zPU ?_
 refine Qc ?_;have pT:=aE qO 0 1 (vd vn s2.st) (vd vn 3);have mT:=(K13.out.far (p:=⟨g14,0,vD⟩) LJ (vd vn s2.st)).far (p:=⟨g14,1,vD⟩) LJ (vd vn 3);have h10:=(h9.out.set iO (vd vn s2.st) (i:=0)).set iO (vd vn 3) (i:=1);have Pm:=tg (tg m9.out BO 0 (vd vn s2.st)) BO 1 (vd vn 3);generalize vF (vF wG _ _) _ _=wZ at pT mT h10 Pm |-;have oT:Blk wZ g14 129 #[vd vn s2.st,vd vn 3]:=by simpa using pT
 have klz:=KL.out.moved Pm n0;have kpz:=KP.out.moved Pm n2;have n3:=nF (w.1.size+3) (Nat.le_add_right _ _);have krz:=KR.out.moved Pm n3;have n3z:=fe Pm KR.out.lt n3;have nlz:=fe Pm KL.out.lt n0;have npz:=fe Pm KP.out.lt n2;have MZ:=zH ((zd (F:=F) HB.out).trans Pm);have HZ:=zH h10;clear c14 f14 ea pT qO K13 h9 m9 h10 Pm KL KP KR cl ct cp l0 l1 l2;have lT:Blk wZ g13 136 #[vd vn ch.al,vd vn ch.rh,vd vn ch.be]:=mT;have nz13:¬F2 g13:=fF;have nz14:¬F2 g14:=iO;obtain ⟨NZ,hNZ⟩:=zEX (wZ.1.size);have l13:g13<NZ:=by rw [hNZ];exact lT.lt
 have l14:g14<NZ:=by rw [hNZ];exact oT.lt
 have ll:w.1.size<NZ:=by rw [hNZ];exact klz.lt
 have lp:w.1.size+2<NZ:=by rw [hNZ];exact kpz.lt
 have q13:g13≠w.1.size+3:=fun e=>by have:=KRL.out;omega
 have q14:g14≠w.1.size+3:=fun e=>by have:=KRL.out;omega
 obtain ⟨V0,Nx⟩:∃ V0:Nat -> Prop,V0=fun b=>F2 b \/ b=w.1.size+3:=⟨_,rfl⟩
 have Gr:¬V0 g13:=by rw [Nx];exact fun e=>e.elim nz13 q13
 have w14:¬V0 g14:=by rw [Nx];exact fun e=>e.elim nz14 q14
 have wl:¬V0 w.1.size:=by rw [Nx];exact fun e=>e.elim nlz (fun e=>by omega)
 have wp:¬V0 (w.1.size+2):=by rw [Nx];exact fun e=>e.elim npz (fun e=>by omega)
 have HV0:=zH (show V0 (w.1.size+3) by rw [Nx];exact .inr rfl)
 have Ik:=zH (show ∀ b,F2 b -> V0 b from fun b e=>by rw [Nx];exact .inl e)
 have c13:=lT.cell;have c14:=oT.cell;have cl:=klz.cell;have cp:=kpz.cell;have KR:=zH krz;have HNZ:=zH hNZ;have AG:=zH (ik (K:=K) MZ.out HK.out);clear lT mT oT klz kpz krz hNZ Nx nlz npz nz13 nz14 fF iO wJ YN ML BO q13 q14;go_upto_region 4 with fail
 have Sr:=zH (fun w1 F1 (h1:OrcAt w1 g s2.O F1) (Ed:Gj w1 P S)=>by have:=Z3 h1 s2.st 3 HS3.out.1 L pq.out P S Ed HS3.out.2 HLN.out;unfold Db Ld at this;exact this)
 refine tK (V0) (F2) (NZ) [5,6] [0,1,2,3,4,5] [] [6,7] (by kernel_rfl) (iB _) (by kernel_rfl) ?_
 refine wK ?_;intro Wc Ha ea;have mc:Hid (Tm V0 NZ F2 Wc):=zH (by rw [Ha.out,HNZ.out];exact ⟨zR,HZ.out.lt,fun b _ h=>Ik.out b h⟩)
 have H8:=zH (show OrcAt Wc g s2.O F2 by rw [Ha.out];exact HZ.out.drew)
 have M8:=zH (show Moved F F2 w Wc by rw [Ha.out];exact Zv MZ.out)
 have KR8:=zH (show Blk Wc _ _ _ by rw [Ha.out];exact KR.out.drew)
 have HP8:=zH (show Hd K Wc _ by rw [Ha.out];exact Td HP.out (TD AG.out ZV))
 clear Ha HZ MZ KR HP AG;refine Gw ?_;refine uK (f:=?_) (vals:=?_) rfl rfl rfl mc ?_ (fun wF Ze=>?_)
 rotate_left 3
 replace H8:=zH (H8.out.below Ze);replace M8:=zH (M8.out.trans (zd Ze));replace KR8:=zH (KR8.out.below Ze KR8.out.lt);replace HP8:=zH (Td HP8.out (ng Ze));replace ea:=(Jc V0 NZ).trans _ _ _ ea (Mj Ze mc.out.size);replace mc:=zH (ru mc.out Ze);refine (Sr.out wF F2 H8.out (yg HP8.out)).mono ?_
 rotate_left
 ·intro w_;go_simp <;> rfl
 rintro e wB ⟨gr,dr,F3,rfl,h3,m3,RJ,n3r⟩;clear Ze;refine ⟨_,F3,rfl,m3,h3.lt,?_⟩;replace ea:=(Jc V0 NZ).trans _ _ _ ea (fH mc.out (m3));replace mc:=zH (mJ mc.out (m3) (h3.lt));refine zPU ?_;have OW:=zH (Xk RJ M8.out.size);have zG:=zH (KR8.out.moved m3 n3z);have n39:=fe m3 KR8.out.lt n3z;replace H8:=zH h3;replace M8:=zH (M8.out.trans m3);clear h3 m3 RJ KR8 HP8;refine Gw ?_;refine vK [] rfl mc (fun Cz wE Te Jo=>?_)
 clear Jo;unfold Ah
 try simp only [List.foldl]
 replace H8:=zH (H8.out.below Te);replace M8:=zH (M8.out.trans (zd Te));replace zG:=zH (zG.out.below Te zG.out.lt);replace OW:=zH (Xb OW.out Te zR);replace ea:=(Jc V0 NZ).trans _ _ _ ea (Mj Te mc.out.size);replace mc:=zH (ru mc.out Te)
 refine zPU ?_
 clear Te;have cr:=zG.out.cell;have fr:=zG.out.frozen;refine Ir ?_;refine Ye (Jc V0 NZ) rfl rfl rfl ?_;go_simp;refine ⟨XR HV0.out [vd vn ch.al,vd vn ch.rh,vd vn ch.be] _,?_⟩
 refine zPU ?_
 have kf:=FF [vd vn ch.al,vd vn ch.rh,vd vn ch.be] zG.out rfl;simp only [Wn,Mk,Nat.reduceAdd] at kf;have h9:=((H8.out.set n39 (vd vn ch.al) (i:=0)).set n39 (vd vn ch.rh) (i:=1)).set n39 (vd vn ch.be) (i:=2);have lr:w.1.size <= w.1.size+3:=Nat.le_add_right _ _;have m9:=tg (tg (tg M8.out lr 0 (vd vn ch.al)) lr 1 (vd vn ch.rh)) lr 2 (vd vn ch.be);have OWE:=zH (L2 OW.out zG.out (by decide))
 have Pa:gr≠w.1.size+3:=fun e=>OWE.out gr rfl (by rw [e])
 have OW9:=qi OW.out (u:=((wE.setCell ⟨w.1.size+3,0,vD⟩ (vd vn ch.al)).setCell ⟨w.1.size+3,1,vD⟩ (vd vn ch.rh)).setCell ⟨w.1.size+3,2,vD⟩ (vd vn ch.be)) fun b hb=>by
  obtain rfl:gr=b:=db hb;rw [Uf _ ⟨w.1.size+3,2,vD⟩ _ gr Pa,Uf _ ⟨w.1.size+3,1,vD⟩ _ gr Pa,Uf _ ⟨w.1.size+3,0,vD⟩ _ gr Pa]
 generalize vF (vF (vF wE _ _) _ _) _ _=wf at kf h9 m9 OW9 |-;have cf:=kf.cell;clear cr fr ea mc;have ea:=(Jc V0 NZ).refl wf;refine Ir ?_;refine Qc ?_;go_wp2;exact ed (by simp [results,results175,go_sem,cf]) rfl ⟨gr,dr,F3,rfl,h9,m9,OW9,n3r⟩
def ar (real:Bool) (seed:Nat):Ga:=if real then ⟨false,0,0,[]⟩ else ⟨true,seed,0,[]⟩
abbrev QW (p:Nat) (pub vars:Int) (A B:Option vy) (n c m d:Nat) (bl bw qs coin:Int) (real:Bool) (seed:Nat):Array vx :=
 #[vd vn p,vd vq pub,vd vq vars,ve A n c,vd vq bl,vd vq bw,vd vq qs,ve B m d,vd vn coin, .bool real,vd vn seed]
theorem jZ {p:Nat} {n:Int} {l:List (Int × Nat)} (h:yh p n l=true) {i:Nat} (hi:i<l.length):Wq p n l i=false:=by
 unfold yh at h;have h1:=Xd.1 h i (Uh.2 hi)
 simpa using h1
theorem DT {p:Nat} {n:Int} {l:List (Int × Nat)} (h:yh p n l=true):∀ i,i<l.length -> (i:Int) <= (l.getD i (0,0)).1 /\ (l.getD i (0,0)).1<n /\ (l.getD i (0,0)).2<p
 | 0,hi=>by
  have h1:=jZ h hi;unfold Wq at h1;simp only [Bool.or_eq_false_iff,qv,Bool.and_eq_false_iff] at h1;omega
 | i+1,hi=>by
  have h1:=jZ h hi;have h2:=DT h i (by omega)
  unfold Wq at h1;simp only [Bool.or_eq_false_iff,qv,Bool.and_eq_false_iff,Nat.add_sub_cancel] at h1;omega
theorem FT {p:Nat} {n:Int} {l:List (Int × Nat)} (h:yh p n l=true) (hn:0 <= n):(l.length:Int) <= n:=by
 by_cases hl:l.length=0
 ·omega
 ·have:=DT h (l.length-1) (by omega)
  omega
theorem JT {p:Nat} {n:Int} {l:List (Int × Nat)} (h:yh p n l=true):∀ t∈l,0 <= t.1 /\ t.1<n /\ t.2<p:=fun t ht=>by
 obtain ⟨i,hi,rfl⟩:=uo ht;have:=DT h i hi;rw [Jb,oc hi] at this;simp only [Option.getD_some] at this;omega
theorem H7 {p:Nat} {pub vars:Int} {rows:List Ya} (h:Zc p pub vars rows=true):∀ r∈rows,yh p vars r.a=true /\ yh p vars r.b=true /\ yh p vars r.c=true:=fun r hr=>by
 unfold Zc at h;rw [Cc] at h;have h1:=Xd.1 h.2 r hr;unfold Qm at h1;rw [Cc,Cc] at h1;exact ⟨h1.1.1,h1.1.2,h1.2⟩
theorem mK {p:Nat} {pub vars:Int} {rows:List Ya} (h:Zc p pub vars rows=true):0 <= pub /\ pub<vars /\ vars <= 65536 /\ rows.length <= 16384:=by
 simp only [Zc,Cc,il,qv] at h;omega
theorem I7 {p:Nat} {pub vars:Int} {rows:List Ya} (h:Zc p pub vars rows=true):SU rows:=fun r hr=>by
 have h1:=H7 h r hr;have h2:=mK h;have a1:=FT h1.1 (by omega)
 have a2:=FT h1.2.1 (by omega)
 have a3:=FT h1.2.2 (by omega)
 omega
theorem cZ:∀ (rows:List Ya),(rows.flatMap NJ).length=3*rows.length+2*UF rows
 | []=>rfl
 | r :: rows=>by
  have h1:=cZ rows;rw [List.flatMap_cons,Kf,h1];simp only [NJ,jA,Nc,Kf,jf,dZ,UF,List.map_cons,List.sum_cons];simp
  omega
theorem lX {p:Nat} {pub vars:Int} {rows:List Ya} (h:Zc p pub vars rows=true) (hs:YI rows):cG p pub vars rows where
 pl:=(Nb (TF h)).2
 pubI:=by have:=mK h;omega
 varI:=by have:=mK h;omega
 n:=(mK h).2.2.2
 sides:=fun r hr k hk=>by
  have h1:=I7 h r hr;unfold Nc;split
  ·exact h1.1
  ·split
   ·exact h1.2.1
   ·exact h1.2.2
 terms:=fun r hr k hk t ht=>by
  have h1:=H7 h r hr;have h2:=mK h;have h3:=(Nb (TF h)).2;unfold Nc at ht;split at ht
  ·have:=JT h1.1 t ht;omega
  ·split at ht
   ·have:=JT h1.2.1 t ht;omega
   ·have:=JT h1.2.2 t ht;omega
 len:=by
  have h1:=hs (I7 h);simp only [mu,Kf,jf,List.length_nil,cZ];omega
theorem zDK (L:Ra) (pu Ka al be:Nat) (vars:Int) (A AM D0 D1 D2 D3 D4:Option vy) (R c T cM n0 n1 n2 n3 n4 k0 k1 k2 k3 k4:Nat) (rows:List Ya) (m r:List (List Nat)) (co li qu sa:List Nat) (w:vw)
  (hL:Rb L) (hF:cu L pu vars rows) (hr:RSl 3 oe w [ve A R c] rows) (hV:ox vars rows)
  (hm:mg w [ve AM T cM] m) (h0:mg w [ve D0 n0 k0] r) (h1:RWd w [ve D1 n1 k1] co) (h2:RWd w [ve D2 n2 k2] li) (h3:RWd w [ve D3 n3 k3] qu) (h4:RWd w [ve D4 n4 k4] sa)
  (Nh:Gs L r co li qu sa=true) (hmT:m.length=L.a+L.b+L.b+L.b) (ij:∀ x∈m,x.length=L.block) :
  vB prog 65 #[vf (Db L),sc L.p (pu:Int) vars (ve A R c),ve AM T cM,vf #[ve D0 n0 k0,ve D1 n1 k1,ve D2 n2 k2,ve D3 n3 k3,ve D4 n4 k4],vf #[vd vn al,vd vn Ka,vd vn be]] w fun e w'=>∃ v1 v2 v3,e=vl (.tuple #[v1,v2,v3]) /\
   w'.ownsRow w.1.size 22 1 v1 L.k (Ia ((List.range L.k).map (oA L.p L.k al (fun k=>co.getD k 0) (xx L m r) m.length))) /\
   w'.ownsRow w.1.size 22 1 v2 (L.k+L.block-1) (Ia ((List.range (L.k+L.block-1)).map (pA L.p (L.k+L.block-1) (fun k=>(bg L li).getD k 0) (tB L (mv L pu Ka rows) m r) m.length))) /\
   w'.ownsRow w.1.size 22 1 v3 (2*L.k-1) (Ia ((List.range (2*L.k-1)).map (By L.p L.k (2*L.k-1) be (gg L.p L.block qu qu.length) (yx L m r) (VD L m r) L.b))) /\ vA w.1.size w w':=by
 obtain ⟨Ed,uc⟩:=Nb hL.p;have vJ:=hL.b1;have Kp:=hL.b2;have pj:=hL.q1;have Tp:=hL.q2;have hk:=hL.k;have Vs:=hL.a;have Qq:=hL.b;have og:=hL.nk;obtain ⟨hlen,j0,hj0⟩:=oy hL;have Tk:L.block=2^L.block.log2:=by rw [hj0,Nat.log2_two_pow]
 obtain ⟨Hv,oY,Fv,Mh,Cn⟩:=YK Nh;have hTm:=(zj hm).1;have hTr:=(zj h0).1;have Mv:=(zj hm).2.2.2;have Ma:=(zj h0).2.2.2;have e1:=(Qb h1).1;have e2:=(Qb h2).1;have e3:=(Qb h3).1;have hTT:T=L.a+L.b+L.b+L.b:=by omega
 have Ge:n1=L.k:=by omega
 have Ws:T=n0:=by omega
 subst Ge Ws;obtain ⟨len,zg⟩:=zEX (L.k+L.block-1);obtain ⟨ni,JS⟩:=zEX (2*L.k-1);have Wd:n2+1=len:=by omega
 have Fm:L.block+n3=ni:=by omega
 have Kv:2 <= len:=by omega
 have ES:2 <= ni:=by omega
 obtain ⟨nH,-⟩:=NO hL Kv (by omega)
 obtain ⟨hM3,-⟩:=NO hL ES (by omega)
 obtain ⟨AH,BH,BE⟩:=mL Kv;obtain ⟨Oh,Ss,Ph⟩:=mL ES;have sl:=fun A n c=>(⟨A,n,c,rfl⟩:slc (ve A n c))
 have sp:=zH (fun w=>by have:=AI L.p L.block L.queries L.k L.n L.secret L.rows L.a L.b L.b L.b w hL.a hL.b hL.b hL.b;rw [<- hTT] at this;exact this)
 have Wt:=zH (fun w' (hb:vA w.1.size w w')=>by have:=vZ L D0 D1 D2 D3 D4 T k0 L.k k1 n2 k2 n3 k3 n4 k4 r co li qu sa w' hL (Dg dI _ _ _ _ hb h0) (Bb hb h1) (Bb hb h2) (Bb hb h3) (Bb hb h4);rw [Nh] at this;exact this)
 have Lt:=zH (fun w' (hb:vA w.1.size w w')=>rZ L (ve D0 T k0) (ve D2 n2 k2) (ve D3 n3 k3) (ve D4 n4 k4) D1 L.k k1 co w' (sl _ _ _) (sl _ _ _) (sl _ _ _) (sl _ _ _) (Bb hb h1) (by omega))
 have kG:=zH (fun w' (hb:vA w.1.size w w')=>by have:=sZ L (ve D0 T k0) (ve D1 L.k k1) (ve D3 n3 k3) (ve D4 n4 k4) D2 n2 k2 li w' hL (sl _ _ _) (sl _ _ _) (sl _ _ _) (sl _ _ _) (Bb hb h2) (by omega);rw [Wd] at this;exact this)
 have HQu:=zH (fun w' (hb:vA w.1.size w w')=>by have:=tZ L (ve D0 T k0) (ve D1 L.k k1) (ve D2 n2 k2) (ve D4 n4 k4) D3 n3 k3 qu w' hL (sl _ _ _) (sl _ _ _) (sl _ _ _) (sl _ _ _) (Bb hb h3) (by omega);rw [Fm] at this;exact this)
 have iG:=zH (fun w' (hb:vA w.1.size w w')=>E3 L pu Ka vars A R c rows w' hL hF (Dg Bg _ _ _ _ hb hr) hV)
 have HMl:=zH (fun a b w=>Gq L.p a b w hL.p)
 have HNg:=zH (fun a w=>OX L.p a w hL.p)
 have QM:=zH (fun A c B d msg af w hl PE=>by have:=uZ L A B L.block c L.queries d msg af w hL hl PE rfl (by omega);rw [<- hk] at this;exact this)
 have HInv:=zH (fun A c l w hl=>UP L.p A L.block c L.block.log2 l w hL.p hl hlen Tk)
 have HMu1:=zH (fun A c B d a b w ha hb=>F7 L.p A B L.block c L.k d ((len-1).log2+1) (Fo len) len a b w hL.p ha hb (by omega) (by omega) (by omega) (by omega) nH AH (by omega) BH BE)
 have HMu3:=zH (fun A c B d a b w ha hb=>F7 L.p A B L.k c L.k d ((ni-1).log2+1) (Fo ni) ni a b w hL.p ha hb (by omega) (by omega) (by omega) (by omega) hM3 Oh (by omega) Ss Ph)
 have xD:=zH (fun s g base gb na ca nb cb mb t F G w ka kb hg hb ht hm=>n9 L.p s g base gb na ca nb cb mb t F G w hL.p ka kb hg hb ht hm)
 have HSp:=zH (show ∀ (g:Nat) (w:vw),vB prog 146 #[vf (Db L),ve (vE ⟨g,0,vD⟩) T T] w fun e w'=>(∃ X1 X2 X3 c1 c2 c3,e=vl (.tuple #[ve (vE ⟨g,0,vD⟩) L.a T,ve X1 L.b c1,ve X2 L.b c2,ve X3 L.b c3]) /\ (0<L.b -> X1=vE ⟨g,L.a,vD⟩ /\ X2=vE ⟨g,L.a+L.b,vD⟩ /\ X3=vE ⟨g,L.a+L.b+L.b,vD⟩)) /\ vA w.1.size w w' from fun g w=>by
  have hs:=zFR L (vE ⟨g,0,vD⟩) T T L.a (L.a+L.b) (L.a+L.b+L.b) w hL rfl rfl rfl (by omega) zR (by simp [maxLen];omega)
  have a1:L.a+L.b-L.a=L.b:=by omega
  have a2:L.a+L.b+L.b-(L.a+L.b)=L.b:=by omega
  have a3:T-(L.a+L.b+L.b)=L.b:=by omega
  unfold xz at hs;rw [a1,a2,a3] at hs;refine hs.mono ?_;rintro e w' ⟨rfl,hb⟩;refine ⟨⟨_,_,_,_,_,_,rfl,fun h=>⟨?_,?_,?_⟩⟩,hb⟩
  ·rw [La (by omega)]
   show vE ((⟨g,0,vD⟩:vy).add L.a)=_
   rw [pn,Mk]
  ·rw [La (by omega)]
   show vE ((⟨g,0,vD⟩:vy).add (L.a+L.b))=_
   rw [pn,Mk]
  ·rw [La (by omega)]
   show vE ((⟨g,0,vD⟩:vy).add (L.a+L.b+L.b))=_
   rw [pn,Mk])
 obtain ⟨N1,sn⟩:=zEX (Fo len);obtain ⟨N3,Lx⟩:=zEX (Fo ni);have Bi:=zH (show len <= N1 /\ ni <= N3 by rw [sn,Lx];exact ⟨BH,Ss⟩)
 rw [<- sn] at HMu1;rw [<- Lx] at HMu3;obtain ⟨Zg,TB⟩:=zEX (mv L pu Ka rows);have Oy:=zH (show Zg.length=T by
  rw [TB];unfold mv Gp;rw [ov,ov,ov,ov];simp only [Pk,ef,List.range_zero,List.flatMap_nil,List.length_nil];simp
  omega)
 have HCR:=zH (show ∀ x∈Zg,x.length=L.block by
  rw [TB];intro x hx;unfold mv at hx;obtain ⟨i,k,-,-,rfl⟩:=pN hx;simp [Bq])
 rw [<- TB] at iG;obtain ⟨Rw,Ez⟩:=zEX (xx L m r);obtain ⟨Rl,hRl⟩:∃ Rl:Nat -> List Nat,Rl=fun i=>(List.range L.k).map (Rw i):=⟨_,rfl⟩
 obtain ⟨Dv,hDv⟩:=zEX (tB L Zg m r);obtain ⟨XY,Jq⟩:=zEX (yx L m r);obtain ⟨fC,hfC⟩:=zEX (oA L.p L.k al (fun k=>co.getD k 0) Rw)
 obtain ⟨fL,hfL⟩:=zEX (pA L.p len (fun k=>(bg L li).getD k 0) Dv)
 obtain ⟨fQ,hfQ⟩:=zEX (By L.p L.k ni be (gg L.p L.block qu n3) XY (fun j=>Rw (L.a+L.b+L.b+j)))
 obtain ⟨P,hP⟩:=zEX (Eg L.p al);obtain ⟨P2,Bv⟩:=zEX (Eg L.p be);have Ww:=zH (show ∀ i (h1:i<m.length) (h2:i<r.length),Fu L m[i] r[i]=Rw i from fun i h1 h2=>by
  rw [Ez];unfold xx;rw [Jb,Jb,oc h1,oc h2]
  rfl)
 have Yw:=zH (show ∀ i,(List.range L.k).map (Rw i)=Rl i from fun i=>by rw [hRl])
 have HRX:=zH (show ∀ i k,Rw i k<18446744073709551616 from fun i k=>by rw [Ez];exact Eh (EZ (by omega) _ _ _) uc)
 have HIX:=zH (show ∀ l k,Im L.p L.block L.block.log2 l k<18446744073709551616 from fun l k=>Eh (ic _ (by omega)) uc)
 have Py:=zH (show ∀ i (h1:i<Zg.length),iA L.p N1 ((len-1).log2+1) ((List.range L.block).map (Im L.p L.block L.block.log2 Zg[i])) (Rl i)=Dv i from fun i h1=>by
  rw [hDv,sn,zg,hRl,Ez];unfold tB yq;rw [Jb,oc h1]
  rfl)
 have Zm:=zH (show ∀ j,iA L.p N3 ((ni-1).log2+1) (Rl (L.a+j)) (Rl (L.a+L.b+j))=XY j from fun j=>by
  rw [Jq,Lx,JS,hRl,Ez]
  rfl)
 have HC0:=zH (show Ia co=Ia ((List.range L.k).map (fC 0)) by rw [hfC];show _=Ia ((List.range L.k).map fun k=>co.getD k 0);rw [AP co L.k Fv.1])
 have tl:=zH (show ∀ i,fC (i+1)=mn L.p (P (i+1)) (fC i) (Rw i) L.k from fun i=>by rw [hfC,hP];rfl)
 have Qt:=zH (show Ia (bg L li)=Ia ((List.range len).map (fL 0)) by rw [hfL];show _=Ia ((List.range len).map fun k=>(bg L li).getD k 0);rw [AP (bg L li) len (by simp [bg];omega)])
 have rp:=zH (show ∀ i,fL (i+1)=mn L.p 1 (fL i) (Dv i) len from fun i=>by rw [hfL];rfl)
 have Vy:=zH (show gg L.p L.block qu n3=fQ 0 by rw [hfQ];rfl)
 have Vw:=zH (show ∀ j,fQ (j+1)=mn L.p (Rf L.p (P2 (j+1))) (mn L.p (P2 (j+1)) (fQ j) (XY j) ni) (Rw (L.a+L.b+L.b+j)) L.k from fun j=>by rw [hfQ,Bv];rfl)
 have Tw:=zH (show P 0=1 by rw [hP];rfl)
 have Qr:=zH (show ∀ i,P (i+1)=P i*al%L.p from fun i=>by rw [hP];rfl)
 have Wy:=zH (show P2 0=1 by rw [Bv];rfl)
 have Di:=zH (show ∀ i,P2 (i+1)=P2 i*be%L.p from fun i=>by rw [Bv];rfl)
 have HCX:=zH (show ∀ k,fC T k<18446744073709551616 from fun k=>by
  rw [hfC];exact Eh (mP (by omega) (fun k=>zv (by omega) Fv.2 k) _ _) uc)
 have Ug:=zH (show ∀ k,fL T k<18446744073709551616 from fun k=>by
  rw [hfL];refine Eh (nP (by omega) (fun k=>?_) _ _) uc
  cases k with
  | zero=>exact NL (by omega) _ _
  | succ k=>exact zv (by omega) Mh.2 k)
 have HQX:=zH (show ∀ k,fQ L.b k<18446744073709551616 from fun k=>by
  rw [hfQ];exact Eh (aM (by omega) (fun k=>rD (by omega) _ _ _) _ _) uc)
 rw [<- zg,<- JS];have Yl:=zH (show oA L.p L.k al (fun k=>co.getD k 0) (xx L m r) m.length=fC T by rw [hfC,Ez,hTm])
 have Tg:=zH (show pA L.p len (fun k=>(bg L li).getD k 0) (tB L (mv L pu Ka rows) m r) m.length=fL T by rw [hfL,hDv,TB,hTm])
 have zD:=zH (show By L.p L.k ni be (gg L.p L.block qu qu.length) (yx L m r) (VD L m r) L.b=fQ L.b by rw [hfQ,Jq,Ez,<- e3];rfl)
 rw [Yl.out,Tg.out,zD.out];have lG:=zH ij;have HCW:=zH oY;have HTM:=zH hTm;have HTR:=zH hTr;have gk:4 <= L.k /\ L.k <= 320 \/ 3 <= L.k /\ L.k <= 320:=by omega
 have gk1:3 <= L.k:=by omega
 have gk2:L.k <= 320:=by omega
 have gl1:len <= 600:=by omega
 have gl0:2 <= len:=Kv;have gl3:ni <= 700:=by omega
 have HT4:=zH hTT;have gkl:L.k <= ni:=by omega
 have gT:T <= 400000:=by omega
 have mk:=BZ T (by omega)
 have gTi:(T:Int) <= 400000:=by omega
 have gT0:(0:Int)<=T:=by omega
 have d0:((T:Int)!=T)=false:=by simp
 have gb1:2 <= L.block:=vJ;have gb2:L.block <= 256:=Kp;have glb:(L.b:Int) <= 100000:=by omega
 clear Ed uc vJ Kp pj Tp hk Vs Qq og hlen hj0 Tk Hv oY Fv Mh Cn hTm hTr e1 e2 e3 hTT Wd Fm Kv ES nH hM3 AH BH BE Oh Ss Ph hL hF hr hV hm h0 h1 h2 h3 h4 Nh hmT ij sn Lx TB Ez hRl hDv Jq hfC hfL hfQ hP Bv gk Yl Tg zD zg JS sl;unfold Db sc fv at *;obtain ⟨kl,kt,kc,kx,da,tb⟩:=VK w 101 25 41 136 #[vd vn L.p,vd vq L.block,vd vq L.queries,vd vq L.k,vd vq L.n,vd vq L.secret,vd vq L.rows,vd vq L.a,vd vq L.b,vd vq L.b,vd vq L.b] #[vd vn L.p,vd vq pu,vd vq vars,ve A R c] #[ve D0 T k0,ve D1 L.k k1,ve D2 n2 k2,ve D3 n3 k3,ve D4 n4 k4] #[vd vn al,vd vn Ka,vd vn be];go_enter func65,ntmps65
 go_upto_region 1 with fail
 generalize (((w.alloc _).alloc _).alloc _).alloc _=w1 at kl kt kc kx da tb |-;have hN:w.1.size+4 <= w1.1.size:=by omega
 clear tb;have cl:=kl.cell;go_wp2_with fail
 refine (sp.out _).mono ?_;rintro e w2 ⟨rfl,ta⟩;replace kl:=ia kl ta;replace kt:=ia kt ta;replace kc:=ia kc ta;replace kx:=ia kx ta;replace da:=ma da ta;replace hN:=jb hN ta.size;clear ta cl;have cl:=kl.cell;have cc:=kc.cell;go_wp2_with fail
 refine (Wt.out _ da).mono ?_;rintro e w3 ⟨rfl,ta⟩;replace kl:=ia kl ta;replace kt:=ia kt ta;replace kc:=ia kc ta;replace kx:=ia kx ta;replace da:=ma da ta;replace hN:=jb hN ta.size;clear ta cl cc sp Wt;have cl:=kl.cell;go_upto_region 4 with fail
 have kf:=Blk.new w3 224 #[vd vn L.p];have ja:=(za w3.1.size w3).alloc zR (.cells #[vd vn L.p] 224);replace kl:=ia kl ja;replace kt:=ia kt ja;replace kc:=ia kc ja;replace kx:=ia kx ja;replace da:=ma da ja;generalize w3.alloc _=w4 at kl kt kc kx kf da |-;obtain ⟨gf,hgf⟩:=zEX (w3.1.size);rw [<- hgf] at kf hN |-;have hgf4:=kf.lt;clear ja cl hgf;have cl:=kl.cell;have ll:=kl.lt;have cc:=kc.cell;have lc:=kc.lt;refine Cd (Tb) [2,5,8] [0,1,3,4,6,7,2,5,8,9,10,11] (by kernel_rfl) (by kernel_rfl) ?_
 refine De (pa) ?_;intro Wc Ha ea;have Ja:=Tf Ha;replace kl:=ia kl Ja;replace kt:=ia kt Ja;replace kc:=ia kc Ja;replace kx:=ia kx Ja;replace kf:=ia kf Ja;replace da:=ma da Ja;have hgfW:gf<Wc.1.size:=kf.lt;refine Ob ?_;refine Gc (pa) rfl rfl rfl (fun _=>by go_simp <;> rfl) ((Lt.out _ da).mono ?_)
 rintro e w5 ⟨v1,rfl,o1,Wa⟩;refine ⟨_,rfl,Wa,?_⟩;replace ea:=(pa).trans _ _ _ ea (Wa);refine zPU ?_;obtain ⟨g1,ca1,rfl,Oh,hg1'⟩:=World.ownsRow.form o1 (by omega)
 replace o1:=Xk o1 da.size;replace kl:=ia kl Wa;replace kt:=ia kt Wa;replace kc:=ia kc Wa;replace kx:=ia kx Wa;replace kf:=ia kf Wa;replace da:=ma da Wa;refine Ob ?_;refine Gc (pa) rfl rfl rfl (fun _=>by go_simp <;> rfl) ((kG.out _ da).mono ?_)
 rintro e w6 ⟨v2,rfl,o2,Ec⟩;refine ⟨_,rfl,Ec,?_⟩;replace ea:=(pa).trans _ _ _ ea (Ec);refine zPU ?_;obtain ⟨g2,ca2,rfl,Ss,hg2'⟩:=World.ownsRow.form o2 (by omega)
 replace o2:=Xk o2 da.size;replace kl:=ia kl Ec;replace kt:=ia kt Ec;replace kc:=ia kc Ec;replace kx:=ia kx Ec;replace kf:=ia kf Ec;replace da:=ma da Ec;replace o1:=Xb o1 Ec zR;refine Ob ?_;refine Gc (pa) rfl rfl rfl (fun _=>by go_simp <;> rfl) ((HQu.out _ da).mono ?_)
 rintro e w7 ⟨g3,rfl,Ph,k3,pc⟩;refine ⟨_,rfl,pc,?_⟩;replace ea:=(pa).trans _ _ _ ea (pc);refine zPU ?_;replace kl:=ia kl pc;replace kt:=ia kt pc;replace kc:=ia kc pc;replace kx:=ia kx pc;replace kf:=ia kf pc;replace da:=ma da pc;replace o1:=Xb o1 pc zR;replace o2:=Xb o2 pc zR;have ZN:=k3.lt;refine Ob ?_;refine Qc ?_;rw [HC0.out] at o1;rw [Qt.out] at o2;rw [Vy.out] at k3;clear Ja Wa Ec pc ea Ha cl ll cc lc Lt kG HQu HC0 Qt Vy;have x1:gf<g1:=by omega
 have x2:g1<g2:=by omega
 have x3:g2<g3:=by omega
 have x0:w.1.size+4 <= gf:=hN;clear hgf4 hgfW Oh hg1' Ss hg2' Ph hN;go_upto_region 7 with fail
 have kr:=Blk.new w7 28 (Ng T fun _=>ve vD 0 0)
 have ja:=(za w7.1.size w7).alloc zR (.cells (Ng T fun _=>ve vD 0 0) 28)
 replace kl:=ia kl ja;replace kt:=ia kt ja;replace kc:=ia kc ja;replace kx:=ia kx ja;replace kf:=ia kf ja;replace da:=ma da ja;replace o1:=Xb o1 ja zR;replace o2:=Xb o2 ja zR;replace k3:=ia k3 ja;generalize w7.alloc _=w8 at kl kt kc kx kf kr da o1 o2 k3 |-;obtain ⟨gr,Pa⟩:=zEX (w7.1.size);rw [<- Pa] at kr ZN |-;have x4:g3<gr:=ZN;have hg8:=kr.lt;clear ja Pa ZN mk;have cl:=kl.cell;have ct:=kt.cell;have cx:=kx.cell;go_wp2_with fail
 refine (iG.out _ da).mono ?_;rintro e w9 ⟨vC,rfl,hC,ta⟩;replace kl:=ia kl ta;replace kc:=ia kc ta;replace kx:=ia kx ta;replace kf:=ia kf ta;replace da:=ma da ta;replace o1:=Xb o1 ta zR;replace o2:=Xb o2 ta zR;replace k3:=ia k3 ta;replace kr:=ia kr ta;obtain ⟨N,hNe⟩:=zEX (w8.1.size);rw [<- hNe] at hC hg8;have hN9:N <= w9.1.size:=by have:=ta.size;omega
 have x5:gr<N:=hg8;clear ta cl ct cx kt iG hNe hg8;obtain ⟨AC,nC,cC,rfl⟩:=RSl.slc hC.here;have hCn:=(zj hC.here).1;have hnC:nC=T:=by rw [<- hCn];exact Oy.out
 subst hnC;clear hCn;have H1:=zH (show (1:Int)=((P 0:Nat):Int) by rw [Tw.out];rfl)
 have H12:=zH (show (1:Int)=((P2 0:Nat):Int) by rw [Wy.out];rfl)
 go_wp2_with fail
 go_loopw [15,61] (fun b y wr=>∃ (i:Nat) (CS:Array vx),i <= nC /\ y=vd vq i /\ b=vd vn (P i:Int) /\ CS.size=nC /\ wr.ownsRow w.1.size 22 1 (ve (vE ⟨g1,0,vD⟩) L.k ca1) L.k (Ia ((List.range L.k).map (fC i))) /\ wr.ownsRow w.1.size 22 1 (ve (vE ⟨g2,0,vD⟩) len ca2) len (Ia ((List.range len).map (fL i))) /\ Blk wr gr 28 CS /\ yK N L.k wr CS i Rw /\ Hw g1 g2 gr w9 wr) (fun _ y _=>nC-(intOf y).toNat)
 case atStart=>exact ⟨0,_,Lb _,rfl,by rw [<- H1.out],by simp [Ng],o1,o2,kr,fun k h=>by omega,zA8 _ _ _ _⟩
 case round =>
  clear o1 o2 kr;obtain ⟨i,CS,hi,rfl,rfl,hCS,o1,o2,kr,uh,hx⟩:=hrel;have zk:=jL kl hx (by omega) (by omega) (by omega)
  have Hc:=jL kf hx (by omega) (by omega) (by omega)
  have kh:=jL kx hx (by omega) (by omega) (by omega)
  have kc1:=jL kc hx (by omega) (by omega) (by omega)
  have Ca:=ex3_to da hx da.size (by omega) (by omega) (by omega)
  by_cases ra:i<nC
  ·have q1:(i:Int)<nC:=by omega
   have q2:(0:Int)<=i:=by omega
   have hic:i<Zg.length:=by rw [Oy.out];exact ra
   have XB:i<m.length:=by rw [HTM.out];exact ra
   have hir:i<r.length:=by rw [HTR.out];exact ra
   obtain ⟨bc,qc,Ac,lc0,cc0,rfl,hbcN,hbc,Fv,OH⟩:=I6 hC hic;have z1:lc0=L.block:=by rw [(Qb (OH w9 fun _ _ _=>rfl)).1];exact HCR.out _ (wg hic)
   subst z1;obtain ⟨bm,qm,Am,lm,cm,rfl,hbm,Ux,rC⟩:=Lu Mv XB;have z2:lm=L.block:=by rw [(Qb rC).1];exact lG.out _ (wg XB)
   subst z2;obtain ⟨bk,qk,Ak,lk,ck,rfl,xE,hck,hrk⟩:=Lu Ma hir;have z3:lk=L.queries:=by rw [(Qb hrk).1];exact (HCW.out _ (wg hir)).1
   subst z3;have HRDi:=zH (Ww.out i XB hir);have HDDi:=zH (Py.out i hic);have HRo:Hid (∀ w':vw,vA w.1.size w w' -> vB prog 126 #[vf #[vd vn L.p,vd vq L.block,vd vq L.queries,vd vq L.k,vd vq L.n,vd vq L.secret,vd vq L.rows,vd vq L.a,vd vq L.b,vd vq L.b,vd vq L.b],ve Am L.block cm,ve Ak L.queries ck] w' fun e w2=>∃ g,e=vl (ve (vE ⟨g,0,vD⟩) L.k L.k) /\ w'.1.size <= g /\ Blk w2 g 22 (Oa L.k (Rw i)) /\ vA w'.1.size w' w2):=zH (fun w' hb=>by rw [<- HRDi.out];exact QM.out Am cm Ak ck m[i] r[i] w' (Bb hb rC) (Bb hb hrk))
   obtain ⟨ci,Jz⟩:=zEX (Zg[i]);rw [<- Jz] at OH HDDi;have HRC:=zH OH;obtain ⟨y0,EC⟩:=zEX (P i);obtain ⟨y1,de⟩:=zEX (P (i+1));have HP1i:=zH (Qr.out i);have HC1i:=zH (tl.out i);have HL1i:=zH (rp.out i);rw [<- EC,<- de] at HP1i;rw [<- de] at HC1i;rw [<- EC];have HY1:=zH de;have Le:Hid (∀ w:vw,vB prog 142 #[vf #[vd vn L.p],vd vn y0,vd vn al] w fun e w'=>e=vl (vd vn y1) /\ vA w.1.size w w'):=zH (fun w=>by rw [HP1i.out];exact HMl.out y0 al w)
   have cci:=(bE (hx.2 bc hbc (by omega) (by omega) (by omega))).trans Fv
   have cmi:=(Ca.cell (p:=⟨bm,qm+i,vD⟩) hbm).trans Ux;have cki:=(Ca.cell (p:=⟨bk,qk+i,vD⟩) xE).trans hck;have lbm:bm<wr.1.size:=Sd hbm Ca.size;have lbk:bk<wr.1.size:=Sd xE Ca.size;have sn:N <= wr.1.size:=jb hN9 hx.1.size;clear EC de Jz Fv Ux hck rC hrk OH;have cl:=zk.cell;have ll:=zk.lt;have cc:=kc1.cell;have lc:=kc1.lt;go_upto_region 10 with fail
   clear cci;refine JA (Tb) [12,14] [14] [0,1,2,3,4,5,6,7,8,9,10,11,12,13,14] (by kernel_rfl) (by kernel_rfl) ?_
   refine LA (pa) ?_;intro Wc Ha ea;have Ja:=Tf Ha;replace Hc:=ia Hc Ja;replace kh:=ia kh Ja;replace kr:=ia kr Ja;replace o1:=Xb o1 Ja zR;replace o2:=Xb o2 Ja zR;replace Ca:=ma Ca Ja;replace hx:=Az hx (bH Ja);replace uh:=Zu uh (WD Ja);replace sn:=jb sn Ja.size;refine ao ?_;refine Gt (pa) rfl rfl rfl (fun _=>by go_simp <;> rfl) ((HRo.out _ Ca).mono ?_)
   rintro e wA ⟨gA,rfl,hgA,kA,Qx⟩;refine ⟨_,rfl,fun _=>Qx,?_⟩
   replace ea:=(pa).trans _ _ _ ea (Qx);refine zPU ?_;replace Hc:=ia Hc Qx;replace kh:=ia kh Qx;replace kr:=ia kr Qx;replace o1:=Xb o1 Qx zR;replace o2:=Xb o2 Qx zR;replace Ca:=ma Ca Qx;replace hx:=Az hx (bH Qx);replace uh:=Zu uh (WD Qx);clear ea Ja Qx Ha cl ll cc lc cmi cki lbm lbk zk kc1;have ea:=(pa).refl wA;have cE:=kr.cell i;rw [Array.getElem?_eq_getElem (by omega)] at cE
   have fkr:=kr.frozen;refine ao ?_;refine Ui (pa) rfl rfl rfl ?_;go_simp;refine ⟨fun h=>Bool.noConfusion h,?_⟩
   have Xa:=Bj (w:=wA) gr i (ve (vE ⟨gA,0,vD⟩) L.k L.k);replace kr:=kr.set_ i (ve (vE ⟨gA,0,vD⟩) L.k L.k);have kA0:=kA;replace kA:=kA.grown Xa (fun e=>by have:=db e;omega)
   replace Hc:=Hc.grown Xa (fun e=>by have:=db e;omega)
   replace kh:=kh.grown Xa (fun e=>by have:=db e;omega)
   replace uh:=Zu uh (cN Xa x5);replace o1:=kJ o1 (DB (g1:=gr) (g2:=gr) (g3:=gr) Xa (.inl rfl)) (by omega) (by omega) (by omega)
   replace o2:=kJ o2 (DB (g1:=gr) (g2:=gr) (g3:=gr) Xa (.inl rfl)) (by omega) (by omega) (by omega)
   replace hx:=Az hx (DB Xa (.inr (.inr rfl)));clear kA0 Xa cE fkr ea Ca;generalize wA.setCell _ _=wB at kr kA Hc kh uh o1 o2 hx |-;have ea:=(pa).refl wB;refine ao ?_;refine KA ?_;replace uh:=zAh uh (by omega) (by omega:N <= gA) kA
   have hCS2:(CS.setIfInBounds i (ve (vE ⟨gA,0,vD⟩) L.k L.k)).size=nC:=by simp [hCS]
   have hCi:(CS.setIfInBounds i (ve (vE ⟨gA,0,vD⟩) L.k L.k))[i]?=vE (ve (vE ⟨gA,0,vD⟩) L.k L.k):=by simp [show i<CS.size by omega]
   generalize CS.setIfInBounds i _=CS2 at kr uh hCS2 hCi;have x6:N <= gA:=by omega
   clear ea hCS hgA sn;have cf:=Hc.cell;have cx:=kh.cell;go_wp2_with fail
   refine (Le.out _).mono ?_;rintro e wC ⟨rfl,ta⟩;replace Hc:=ia Hc ta;replace kh:=ia kh ta;replace kr:=ia kr ta;replace kA:=ia kA ta;replace o1:=Xb o1 ta zR;replace o2:=Xb o2 ta zR;replace uh:=Zu uh (WD ta);replace hx:=Az hx (bH ta);clear ta cf cx;have cf:=Hc.cell;have lf:=Hc.lt;have cE:=kr.cell i;rw [hCi] at cE;have lr:=kr.lt;have x7:gf≠g1:=by omega
   have x8:gr≠g1:=by omega
   go_upto_region 12 with fail
   refine Cd (om g1) [7] [0,1,2,3,4,5,6,7] (by kernel_rfl) (by kernel_rfl) ?_
   refine De (Je g1) ?_;intro Wc Ha ea;have Ja:=Tf Ha;replace Hc:=ia Hc Ja;replace kh:=ia kh Ja;replace kr:=ia kr Ja;replace kA:=ia kA Ja;replace o1:=Xb o1 Ja zR;replace o2:=Xb o2 Ja zR;replace uh:=Zu uh (WD Ja);replace hx:=Az hx (bH Ja);refine Zn ?_;refine Gc (Je g1) rfl rfl rfl (fun _=>by go_simp <;> rfl) ((xD.out y1 g1 w.1.size gA L.k ca1 L.k L.k L.k L.k (fC i) (Rw i) _ o1 kA (by omega) zR (Nat.min_self _).symm (by omega)).mono ?_)
   rintro e wD ⟨rfl,zt,Mz⟩;refine ⟨_,rfl,Mz,?_⟩;replace ea:=(Je g1).trans _ _ _ ea (Mz);refine zPU ?_;refine Zn ?_;refine Qc ?_;rw [<- HC1i.out] at zt;replace kA:=kA.grown Mz (fun e=>by have:=db e;omega)
   replace Hc:=Hc.grown Mz (fun e=>by have:=db e;omega)
   replace kh:=kh.grown Mz (fun e=>by have:=db e;omega)
   replace kr:=kr.grown Mz (fun e=>by have:=db e;omega)
   replace uh:=Zu uh (cN Mz (by omega))
   replace o2:=kJ o2 (DB (g1:=g1) (g2:=g1) (g3:=g1) Mz (.inl rfl)) (by omega) (by omega) (by omega)
   replace hx:=Az hx (DB Mz (.inl rfl));clear ea Ja Ha cf lf cE lr Mz o1;have OB:=V9 (N:=N) hx (by omega) (by omega) (by omega)
   have OH:=HRC.out wD (fun b b1 b2=>OB.2 b b1 b2)
   have cf:=Hc.cell;go_wp2_with fail
   refine (HInv.out Ac cc0 ci _ OH).mono ?_;rintro e wE ⟨gE,rfl,hgE,kE,ta⟩;replace Hc:=ia Hc ta;replace kh:=ia kh ta;replace kr:=ia kr ta;replace kA:=ia kA ta;replace zt:=Xb zt ta zR;replace o2:=Xb o2 ta zR;replace uh:=Zu uh (WD ta);replace hx:=Az hx (bH ta);clear ta cf OB OH;have hE:=FB kE (fun k _=>HIX.out ci k) (by simp [maxLen];omega)
   have hA:=FB kA (fun k _=>HRX.out i k) (by simp [maxLen];omega)
   rw [Yw.out] at hA;have cf:=Hc.cell;have lf:=Hc.lt;have cE:=kr.cell i;rw [hCi] at cE;have lr:=kr.lt;go_upto_region 14 with fail
   refine Cd (Tb) [6] [0,1,2,3,4,5,6,7,8,9,10,11] (by kernel_rfl) (by kernel_rfl) ?_
   refine De (pa) ?_;intro Wc Ha ea;have Ja:=Tf Ha;replace Hc:=ia Hc Ja;replace kh:=ia kh Ja;replace kr:=ia kr Ja;replace zt:=Xb zt Ja zR;replace o2:=Xb o2 Ja zR;replace hE:=Bb Ja hE;replace hA:=Bb Ja hA;replace uh:=Zu uh (WD Ja);replace hx:=Az hx (bH Ja);have hW2:g2<Wc.1.size:=(o2.lt g2 rfl).2;refine Ob ?_;refine Gc (pa) rfl rfl rfl (fun _=>by go_simp <;> rfl) ((HMu1.out _ _ _ _ _ _ _ hE hA).mono ?_)
   rintro e wF ⟨gF,rfl,hgF,kF,ei⟩;refine ⟨_,rfl,ei,?_⟩;replace ea:=(pa).trans _ _ _ ea (ei);refine zPU ?_;replace Hc:=ia Hc ei;replace kh:=ia kh ei;replace kr:=ia kr ei;replace zt:=Xb zt ei zR;replace o2:=Xb o2 ei zR;replace uh:=Zu uh (WD ei);replace hx:=Az hx (bH ei);rw [HDDi.out] at kF;refine Ob ?_;refine Qc ?_;clear ea Ja Ha cf lf cE lr ei hE hA kE kA;have x9:g2≠gF:=by omega
   have cf:=Hc.cell;go_wp2_with fail
   refine (xD.out 1 g2 w.1.size gF len ca2 len N1 N1 len (fL i) (Dv i) _ o2 kF x9 Bi.out.1 (Nat.min_self _).symm (by omega)).mono ?_
   rintro e wG ⟨rfl,o2',Wx⟩;rw [<- HL1i.out] at o2';replace kr:=kr.grown Wx (fun e=>by have:=db e;omega)
   replace uh:=Zu uh (cN Wx (by omega))
   replace zt:=kJ zt (DB (g1:=g2) (g2:=g2) (g3:=g2) Wx (.inl rfl)) (by omega) (by omega) (by omega)
   replace hx:=Az hx (DB Wx (.inr (.inl rfl)));clear Wx cf kF o2;go_wp2_with fail
   go_roundw
   case rel=>exact ⟨i+1,CS2,by omega,by go_num,by rw [HY1.out],hCS2,zt,o2',kr,uh,hx⟩
   case measure=>simp [intOf];omega
  ·obtain rfl:i=nC:=by omega
   have q1:¬((i:Int)<i):=by omega
   have sn:N <= wr.1.size:=jb hN9 hx.1.size;have k3r:=jL k3 hx (by omega) (by omega) (by omega)
   obtain ⟨wo,hwo⟩:=zEX (wr);subst hwo;have cl:=zk.cell;go_wp2_with fail
   refine (HSp.out gr _).mono ?_;rintro e wS ⟨⟨X1,X2,X3,c1,c2,c3,rfl,hX⟩,ta⟩;replace Hc:=ia Hc ta;replace kh:=ia kh ta;replace kr:=ia kr ta;replace k3r:=ia k3r ta;replace o1:=Xb o1 ta zR;replace o2:=Xb o2 ta zR;replace Ca:=ma Ca ta;replace uh:=Zu uh (WD ta);have HX:=zH hX;clear ta cl hX zk kc1 kl kf kx kc k3 hx;go_wp2_with fail
   go_loopw [15,124] (fun b y wr=>∃ j:Nat,j <= L.b /\ y=vd vq j /\ b=vd vn (P2 j:Int) /\ wr.ownsRow w.1.size 22 1 (ve (vE ⟨g3,0,vD⟩) ni ni) ni (Ia ((List.range ni).map (fQ j))) /\ wS.grownBy wr (vE g3)) (fun _ y _=>L.b-(intOf y).toNat)
   case atStart=>exact ⟨0,Lb _,rfl,by rw [<- H12.out],Y1 k3r (by omega) (by simp [maxLen];omega),Vd _ _⟩
   case round =>
    clear k3r;obtain ⟨j,hj,rfl,rfl,o3,hg⟩:=hrel;by_cases hltj:j<L.b
    ·obtain ⟨rfl,rfl,rfl⟩:=HX.out (by omega)
     have q2:(j:Int)<L.b:=by omega
     have q3:(0:Int)<=j:=by omega
     have Pf:=Hc.grown hg (fun e=>by have:=db e;omega)
     have qt:=kh.grown hg (fun e=>by have:=db e;omega)
     have Zf:=kr.grown hg (fun e=>by have:=db e;omega)
     have Kh:=Zu uh (cN hg (by omega))
     obtain ⟨ga,hca,hga,ka⟩:=Kh (L.a+j) (by have:=HT4.out;omega)
     obtain ⟨gb,hcb,Il,kb⟩:=Kh (L.a+L.b+j) (by have:=HT4.out;omega)
     obtain ⟨gz,hcz,hgz,kz⟩:=Kh (L.a+L.b+L.b+j) (by have:=HT4.out;omega)
     have ha:=FB ka (fun k _=>HRX.out _ k) (by simp [maxLen];omega)
     have hb:=FB kb (fun k _=>HRX.out _ k) (by simp [maxLen];omega)
     rw [Yw.out] at ha hb;obtain ⟨y0,EC⟩:=zEX (P2 j);obtain ⟨y1,de⟩:=zEX (P2 (j+1));obtain ⟨nz,hnz⟩:=zEX (Rf L.p y1);have HR1j:=zH (Di.out j);have HQ1j:=zH (Vw.out j);have HXXj:=zH (Zm.out j);rw [<- EC,<- de] at HR1j;rw [<- de,<- hnz] at HQ1j;rw [<- EC];have HY1:=zH de;have Le:Hid (∀ w:vw,vB prog 142 #[vf #[vd vn L.p],vd vn y0,vd vn be] w fun e w'=>e=vl (vd vn y1) /\ vA w.1.size w w'):=zH (fun w=>by rw [HR1j.out];exact HMl.out y0 be w)
     have Vm:Hid (∀ w:vw,vB prog 147 #[vf #[vd vn L.p],vd vn y1] w fun e w'=>e=vl (vd vn nz) /\ vA w.1.size w w'):=zH (fun w=>by rw [hnz];exact HNg.out y1 w)
     clear EC de hnz ka kb;have cf:=Pf.cell;have cx:=qt.cell;go_wp2_with fail
     refine (Le.out _).mono ?_;rintro e wC ⟨rfl,ta⟩;replace Pf:=ia Pf ta;replace Zf:=ia Zf ta;replace kz:=ia kz ta;replace ha:=Bb ta ha;replace hb:=Bb ta hb;replace o3:=Xb o3 ta zR;replace hg:=Lf hg ta hg.size;clear ta cf cx qt Kh;have cf:=Pf.cell;have lf:=Pf.lt;have cra:=Zf.cell (L.a+j);have crb:=Zf.cell (L.a+L.b+j);rw [hca] at cra;rw [hcb] at crb;have lr:=Zf.lt;go_upto_region 23 with fail
     refine Cd (Tb) [9] [0,1,2,3,4,5,6,7,8,9,10,11,12,13,14] (by kernel_rfl) (by kernel_rfl) ?_
     refine De (pa) ?_;intro Wc Ha ea;have Ja:=Tf Ha;replace Pf:=ia Pf Ja;replace Zf:=ia Zf Ja;replace kz:=ia kz Ja;replace ha:=Bb Ja ha;replace hb:=Bb Ja hb;replace o3:=Xb o3 Ja zR;replace hg:=Lf hg Ja hg.size;have hW3:g3<Wc.1.size:=(o3.lt g3 rfl).2;refine Ob ?_;refine Gc (pa) rfl rfl rfl (fun _=>by go_simp <;> rfl) ((HMu3.out _ _ _ _ _ _ _ ha hb).mono ?_)
     rintro e wF ⟨gF,rfl,hgF,kF,ei⟩;refine ⟨_,rfl,ei,?_⟩;replace ea:=(pa).trans _ _ _ ea (ei);refine zPU ?_;replace Pf:=ia Pf ei;replace Zf:=ia Zf ei;replace kz:=ia kz ei;replace o3:=Xb o3 ei zR;replace hg:=Lf hg ei hg.size;rw [HXXj.out] at kF;refine Ob ?_;refine Qc ?_;clear ea Ja Ha cf lf cra crb lr ei ha hb;have x9:g3≠gF:=by omega
     have cf:=Pf.cell;go_wp2_with fail
     refine (xD.out y1 g3 w.1.size gF ni ni ni N3 N3 ni (fQ j) (XY j) _ o3 kF x9 Bi.out.2 (Nat.min_self _).symm (by omega)).mono ?_
     rintro e wG ⟨rfl,lA,Wx⟩;replace hg:=Iq hg Wx (fun _ e=>.inl e)
     replace Pf:=Pf.grown Wx (fun e=>by have:=db e;omega)
     replace Zf:=Zf.grown Wx (fun e=>by have:=db e;omega)
     replace kz:=kz.grown Wx (fun e=>by have:=db e;omega)
     clear Wx cf kF o3;have cf:=Pf.cell;have lf:=Pf.lt;have crz:=Zf.cell (L.a+L.b+L.b+j);rw [hcz] at crz;have lr:=Zf.lt;have Yn:gf≠g3:=by omega
     have x11:gr≠g3:=by omega
     go_upto_region 25 with fail
     refine Cd (om g3) [8,9] [0,1,2,3,4,5,6,7,8,9] (by kernel_rfl) (by kernel_rfl) ?_
     refine De (Je g3) ?_;intro Wc Ha ea;have Ja:=Tf Ha;replace kz:=ia kz Ja;replace lA:=Xb lA Ja zR;replace hg:=Lf hg Ja hg.size;refine Zn ?_;refine Gc (Je g3) rfl rfl rfl (fun _=>by go_simp <;> rfl) ((Vm.out _).mono ?_)
     rintro e wH ⟨rfl,QB⟩;refine ⟨_,rfl,X0 QB,?_⟩;replace ea:=(Je g3).trans _ _ _ ea (X0 QB);refine zPU ?_;replace kz:=ia kz QB;replace lA:=Xb lA QB zR;replace hg:=Lf hg QB hg.size;refine Zn ?_;refine Gc (Je g3) rfl rfl rfl (fun _=>by go_simp <;> rfl) ((xD.out nz g3 w.1.size gz ni ni L.k L.k L.k L.k (mn L.p y1 (fQ j) (XY j) ni) (Rw (L.a+L.b+L.b+j)) _ lA kz (by omega) zR (by omega) (by omega)).mono ?_)
     rintro e wI ⟨rfl,o3'',hgI⟩;refine ⟨_,rfl,hgI,?_⟩;replace ea:=(Je g3).trans _ _ _ ea (hgI);refine zPU ?_;refine Zn ?_;refine Qc ?_;rw [<- HQ1j.out] at o3'';replace hg:=Iq hg hgI (fun _ e=>.inl e)
     clear ea Ja Ha cf lf crz lr QB hgI lA kz Pf Zf;go_wp2_with fail
     go_roundw
     case rel=>exact ⟨j+1,by omega,by go_num,by rw [HY1.out],o3'',hg⟩
     case measure=>simp [intOf];omega
    ·obtain rfl:j=L.b:=by omega
     have q2:¬((L.b:Int)<L.b):=by omega
     replace o1:=kJ o1 (DB (g1:=g3) (g2:=g3) (g3:=g3) hg (.inl rfl)) (by omega) (by omega) (by omega)
     replace o2:=kJ o2 (DB (g1:=g3) (g2:=g3) (g3:=g3) hg (.inl rfl)) (by omega) (by omega) (by omega)
     have hE:=Dd Ca hg;clear hg;go_wp2;exact ed (v:=.tuple #[ve (vE ⟨g1,0,vD⟩) L.k ca1,ve (vE ⟨g2,0,vD⟩) len ca2,ve (vE ⟨g3,0,vD⟩) ni ni]) (by simp [results,results65,go_sem]) rfl ⟨_,_,_,rfl,o1,o2,o3,hE⟩
def mz (N:Nat) (w:vw) (xs:Nat -> vx) (n:Nat -> Nat) (vals:Nat -> List Nat):Prop :=
 (∀ j,j<3 -> w.ownsRow N 22 1 (xs j) (n j) (Ia ((vals j).take (n j)))) /\
 ∀ j i,j<3 -> i<3 -> j≠i -> ∀ q,(xs j).ownBlock=vE q -> (xs i).ownBlock=vE q -> False
theorem yP {N:Nat} {w w':vw} {xs:Nat -> vx} {n:Nat -> Nat} {vals:Nat -> List Nat} (h:mz N w xs n vals) (hb:vA w.1.size w w'):mz N w' xs n vals :=
 ⟨fun j hj=>Xb (h.1 j hj) hb zR,h.2⟩
theorem r3_set {N B:Nat} {w w':vw} {xs:Nat -> vx} {n:Nat -> Nat} {vals:Nat -> List Nat} (h:mz N w xs n vals) (hg:w.grownBy w' (vE B)) (hB:B<N):mz N w' xs n vals :=
 ⟨fun j hj=>ti (h.1 j hj) hg hB,h.2⟩
theorem r3_app {N k:Nat} {w w':vw} {xs:Nat -> vx} {n:Nat -> Nat} {vals:Nat -> List Nat} {x:vx} (h:mz N w xs n vals) (hk:k<3) (ho:w'.ownsRow N 22 1 x (n k+1) (Ia ((vals k).take (n k+1)))) (hg:w.grownBy w' (xs k).ownBlock) (hb:x.ownBlock=(xs k).ownBlock \/ x.ownBlock=vE w.1.size):mz N w' (Nu xs k x) (fun j=>if j=k then n k+1 else n j) vals:=by
 refine ⟨fun j hj=>?_,fun j i hj hi Ta q h1 h2=>?_⟩
 ·by_cases e:j=k
  ·subst e;simp only [Nu,if_true];exact ho
  ·simp only [Nu,La e]
   exact W2 (h.1 j hj) hg fun q h1 h2=>h.2 j k hj hk e q h1 h2
 ·by_cases e:j=k
  ·subst e
   have e2:¬i=j:=fun e2=>Ta e2.symm
   rw [Nu,Qa rfl] at h1;rw [Nu,La e2] at h2;exact dN (h.1 i hi) (h.2 j i hj hi Ta) hb q h1 h2
  ·rw [Nu,La e] at h1
   by_cases e2:i=k
   ·subst e2
    rw [Nu,Qa rfl] at h2;exact dN (h.1 j hj) (h.2 i j hi hj (fun e=>Ta e.symm)) hb q h2 h1
   ·rw [Nu,La e2] at h2
    exact h.2 j i hj hi Ta q h1 h2
theorem zDS (L:Ra) (pu:Nat) (vars:Int) (A B:Option vy) (n c m d:Nat) (rows:List Ya) (ws:List Nat) (w:vw) (hL:Rb L) (hF:cu L pu vars rows) (hr:RSl 3 oe w [ve A n c] rows) (hw:RWd w [ve B m d] ws) (yk:(ws.length:Int)=vars) :
  vB prog 59 #[vf (Db L),sc L.p (pu:Int) vars (ve A n c),ve B m d] w fun e w'=>∃ v,e=vl v /\ RRx w.1.size w' v (tj L rows ws pu) /\ vA w.1.size w w':=by
 obtain ⟨ij,Mv,hdx,ra,Kg⟩:=Qb hw;subst ij;have gm:=Tl Mv hdx;have xC:=hF.sec;have Oo:=hL.r;have Rz:=hF.nr;obtain ⟨s,hs⟩:=zEX (1+pu);have e1:(1:Int)+pu=(s:Int):=by omega
 have e2:=Ce s;have e3:(s:Int)<=ws.length:=by omega
 have e4:s <= ws.length:=by omega
 have e5:(0:Int)<=s:=by omega
 have dv:((ws.length:Int) != vars)=false:=by rw [yk];simp
 rw [show tj L rows ws pu=Gp L.block (ef (ws.drop s) (Dh L.p rows ws 0) (Dh L.p rows ws 1) (Dh L.p rows ws 2)) (ef L.a L.b L.b L.b) by rw [hs];rfl]
 have Nv:L.a=((ws.drop s).length+L.block-1) / L.block:=by
  rw [List.length_drop,show ws.length-s=L.secret by omega];exact hL.ae
 have pj:∀ k,L.b=((Dh L.p rows ws k).length+L.block-1) / L.block:=fun k=>by
  rw [show (Dh L.p rows ws k).length=L.rows by simp [Dh,Rz]];exact hL.be
 have eF:RWd w [ve (if d=s then B else Option.map (fun x=>x.add s) B) (ws.length-s) (d-s)] (ws.drop s):=by
  have hc:=Kg.cut (k:=s) e4 Mv;rw [Yr] at hc;refine ⟨_,_,_,rfl,by omega,by omega,?_,fun x hx=>ra x (List.mem_of_mem_drop hx)⟩
  have e:Ia (ws.drop s)=(Ia ws).drop s:=by simp [Ia]
  rw [e];exact hc
 have PH:rows.length=n:=by
  obtain ⟨_,_,_,he,hn,-⟩:=hr;simp at he
  omega
 have jo:=zH (fun w=>YQ L pu vars A n c rows w hL hF PH)
 have HVl:=zH (fun A len c l w' (hb:vA w.1.size w w') hl=>G7 L.p A B len c ws.length d l ws w' hl (Bb hb hw) hL.p)
 have HCut:=zH (fun v0 v1 v2 v3 l0 l1 l2 l3 w h hq=>J3 L v0 v1 v2 v3 l0 l1 l2 l3 w hL h hq)
 obtain ⟨A',n',c',he,hnl,He,ah,Ma⟩:=hr;simp at he
 obtain ⟨rfl,rfl,rfl⟩:=he;subst PH;have gr:(rows.length:Int) <= 65536:=by omega
 have Wr:=zH (show ∀ k i (h:i<rows.length),(Dh L.p rows ws k).take i++[Mc L.p (Nc rows[i] k) ws]=(Dh L.p rows ws k).take (i+1) from fun k i h=>by
  rw [iz (by simpa [Dh] using h)]
  simp [Dh])
 have Vt:=zH (show ∀ k,(Dh L.p rows ws k).take rows.length=Dh L.p rows ws k from fun k=>List.take_of_length_le (by simp [Dh]))
 have HVT:=zH (show ∀ k,∀ x∈Dh L.p rows ws k,x<18446744073709551616 from fun k x hx=>by
  obtain ⟨r,-,rfl⟩:=ld.1 hx;exact Eh (mZ (by have:=Nb hL.p;omega) _ _) (Nb hL.p).2)
 obtain ⟨vals,FY⟩:=zEX (Dh L.p rows ws);rw [<- FY] at Wr Vt HVT pj |-;have HQ:=zH (And.intro Nv pj);obtain ⟨B0,hB0⟩:=zEX ((if d=s then B else Option.map (fun x=>x.add s) B))
 have HB0:=zH hB0;rw [<- hB0] at eF;obtain ⟨TC,hTC⟩:∃ TC:Array vx,TC=#[vd vn L.p,vd vq pu,vd vq vars,ve A rows.length c]:=⟨_,rfl⟩;have HTC:=zH hTC;have HT0:=zH (show TC[0]?=vE (vd vn L.p) by rw [hTC];rfl)
 have HT3:=zH (show TC[3]?=vE (ve A rows.length c) by rw [hTC];rfl)
 unfold Db sc at *;obtain ⟨kl,kt,da,-⟩:=Ih w 101 25 #[vd vn L.p,vd vq L.block,vd vq L.queries,vd vq L.k,vd vq L.n,vd vq L.secret,vd vq L.rows,vd vq L.a,vd vq L.b,vd vq L.b,vd vq L.b] #[vd vn L.p,vd vq pu,vd vq vars,ve A rows.length c];clear hs FY Kg ra hw hB0 hTC Nv pj xC Oo Rz yk hF hL;go_enter func59,ntmps59
 go_upto_region 1 with fail
 generalize (w.alloc _).alloc _=w1 at kl kt da |-;have cl:=kl.cell;have ct:=kt.cell;go_wp2_with fail
 refine (jo.out _).mono ?_;rintro e w2 ⟨rfl,ta⟩;replace kl:=ia kl ta;replace kt:=ia kt ta;replace da:=ma da ta;clear ta cl ct jo;have ct:=kt.cell;go_upto_region 4 with fail
 rw [<- HB0.out];clear e1 e2 e3 e4 e5 HB0 ct dv;have kv:=Blk.new w2 219 #[ve B0 (ws.length-s) (d-s),ve vD 0 0,ve vD 0 0,ve vD 0 0];have ja:=(za w2.1.size w2).alloc zR (.cells #[ve B0 (ws.length-s) (d-s),ve vD 0 0,ve vD 0 0,ve vD 0 0] 219);have n1:=kt.lt;have n2:=kl.lt;replace kl:=ia kl ja;replace kt:=ia kt ja;replace da:=ma da ja;clear ja;have Ji:w2.1.size+1 <= (w2.alloc (.cells #[ve B0 (ws.length-s) (d-s),ve vD 0 0,ve vD 0 0,ve vD 0 0] 219)).1.size:=kv.lt;have Yx:w.1.size <= w2.1.size:=by omega
 generalize ws.length-s=n0 at *;generalize d-s=d0 at *;generalize w2.alloc _=w3 at kl kt kv da Ji |-;generalize w2.1.size=gv at kv n1 n2 Ji Yx |-;obtain ⟨V0,Nx⟩:∃ V0:vx,V0=ve B0 n0 d0:=⟨_,rfl⟩;have HV0:=zH Nx;rw [<- Nx] at kv eF;clear Nx;rw [<- HTC.out] at kt;have n3:w.1.size≠gv:=by omega
 have n4:w.1.size+1≠gv:=by omega
 obtain ⟨N,hN⟩:=zEX (gv+1);rw [<- hN] at Ji;have nv:gv<N:=by omega
 have nv2:gv≠N:=by omega
 have n5:w.1.size<N:=by omega
 have n6:w.1.size+1<N:=by omega
 have n7:w.1.size <= gv:=by omega
 have n8:w.1.size≠N:=by omega
 clear hN;have ct:=kt.cell 3;rw [HT3.out] at ct;go_wp2_with fail
 clear ct;go_loopw [32] (fun y wr=>∃ (i:Nat) (xs:Nat -> vx),i <= rows.length /\ y=vd vq i /\ Blk wr w.1.size 101 #[vd vn L.p,vd vq L.block,vd vq L.queries,vd vq L.k,vd vq L.n,vd vq L.secret,vd vq L.rows,vd vq L.a,vd vq L.b,vd vq L.b,vd vq L.b] /\ Blk wr (w.1.size+1) 25 TC /\ Blk wr gv 219 #[V0,xs 0,xs 1,xs 2] /\ mz N wr xs (fun _=>i) vals /\ vA w.1.size w wr /\ N <= wr.1.size) (fun y _=>rows.length-(intOf y).toNat)
 case atStart=>exact ⟨0,fun _=>ve vD 0 0,by omega,rfl,kl,kt,kv,⟨fun j _=>⟨rfl, .inl ⟨rfl,rfl⟩⟩,fun j i _ _ _ q h=>by cases h⟩,da,Ji⟩
 case round =>
  clear kl kt kv da Ji;obtain ⟨i,xs,hi,rfl,kl,kt,kv,h3,da,Ji⟩:=hrel;by_cases iC:i<rows.length
  ·have q1:(i:Int)<rows.length:=by omega
   have q2:(0:Int)<=i:=by omega
   obtain ⟨b,q,rfl⟩:=Ma.base (by omega) (by omega)
   obtain ⟨cs,-,hc,u0,u1,u2,rfl,aF,bF,cF⟩:=Ma.get iC;have r0:w.cell? ⟨b,q+i*3,vD⟩=vE u0:=hc 0 (by omega)
   have r1:w.cell? ⟨b,q+i*3+1,vD⟩=vE u1:=hc 1 (by omega)
   have r2:w.cell? ⟨b,q+i*3+2,vD⟩=vE u2:=hc 2 (by omega)
   have lb:=mf _ _ r0;replace r0:=(da.cell (p:=⟨b,q+i*3,vD⟩) lb).trans r0;replace r1:=(da.cell (p:=⟨b,q+i*3+1,vD⟩) lb).trans r1;replace r2:=(da.cell (p:=⟨b,q+i*3+2,vD⟩) lb).trans r2;obtain ⟨P0,m0,k0,rfl⟩:=RSl.slc aF;obtain ⟨P1,m1,Yf,rfl⟩:=RSl.slc bF;obtain ⟨P2,m2,k2,rfl⟩:=RSl.slc cF;have HVNi:=zH (show ∀ k,(vals k).take i++[Mc L.p (Nc (rows[i]'iC) k) ws]=(vals k).take (i+1) from fun k=>Wr.out k i iC)
   obtain ⟨ri,hri⟩:=zEX (rows[i]'iC);rw [<- hri] at aF bF cF HVNi;clear hri;have HHI:=zH hi;obtain ⟨i1,Np⟩:=zEX (i+1);have Ru:=zH Np;have Wb:=zH iC;clear hc hi Np;go_upto_region 7 with fail
   have kr:=Blk.new wr 211 #[ve P0 m0 k0,ve P1 m1 Yf,ve P2 m2 k2];have ja:=(za wr.1.size wr).alloc zR (.cells #[ve P0 m0 k0,ve P1 m1 Yf,ve P2 m2 k2] 211);replace h3:=yP h3 ja;replace kl:=ia kl ja;replace kt:=ia kt ja;replace kv:=ia kv ja;replace da:=ma da ja;replace Ji:=jb Ji ja.size;clear ja r0 r1 r2;generalize wr.alloc _=wo at kr kl kt kv h3 da Ji |-;generalize wr.1.size=gr at kr |-;have cr:=kr.cell;go_wp2_with fail
   clear cr kr;have HU0:=zH (fun w' (hb:vA w.1.size w w')=>gh _ _ _ _ hb aF)
   have HU1:=zH (fun w' (hb:vA w.1.size w w')=>gh _ _ _ _ hb bF)
   have HU2:=zH (fun w' (hb:vA w.1.size w w')=>gh _ _ _ _ hb cF)
   clear aF bF cF;go_loopw [43] (fun y wr=>∃ (k:Nat) (xs:Nat -> vx),k <= 3 /\ y=vd vq k /\ Blk wr gv 219 #[V0,xs 0,xs 1,xs 2] /\ mz N wr xs (fun j=>if j<k then i+1 else i) vals /\ fo gv N wo wr /\ N <= wr.1.size) (fun y _=>3-(intOf y).toNat)
   case atStart=>exact ⟨0,xs,by omega,rfl,kv,h3,(Yb _ _).refl _,Ji⟩
   case round =>
    clear kv h3;obtain ⟨k,xs,hk,rfl,kv,h3,tc,sn⟩:=hrel;have y1:w.1.size<gv+1:=by omega
    have y2:w.1.size+1<gv+1:=by omega
    have klr:=PW kl tc n5 n3;have ktr:=PW kt tc n6 n4;have Ab:vA w.1.size w wr:=da.trans ⟨tc.1,tc.2.1,tc.2.2.1,tc.2.2.2.1,fun b hb=>tc.2.2.2.2 b (by omega) (by omega)⟩
    by_cases ra:k<3
    ·have g1:(k:Int)<3:=by omega
     have g2:(0:Int)<=k:=by omega
     obtain ⟨k1,Pp⟩:=zEX (k+1);have ek:(1:Int)+k=(k1:Int):=by omega
     have ZG:=Ce k1;have HK1:=zH Pp;have qk:k1<4:=by omega
     have qk2:(k1:Int)<4:=by omega
     have qk3:(0:Int)<=k1:=by omega
     clear Pp;have xa:wr.ownsRow N 22 1 (xs k) i (Ia ((vals k).take i)):=by have:=h3.1 k ra;simpa using this
     obtain ⟨Ax,cx,Sv,-⟩:=ud xa;have ix:=fun (w:vw)=>kO (w:=w) (x:=ve P0 m0 k0) (y:=ve P1 m1 Yf) (z:=ve P2 m2 k2) ra
     obtain ⟨sel,If⟩:=zEX ((if k=0 then ve P0 m0 k0 else if k=1 then ve P1 m1 Yf else ve P2 m2 k2))
     have Uk:RLin wr [sel] (Nc ri k):=by
      rw [If];unfold Nc;have hfb:vA wo.1.size wo wr \/ True:=.inr trivial;rcases (show k=0 \/ k=1 \/ k=2 by omega) with h | h | h <;> subst h
      ·exact HU0.out _ Ab
      ·exact HU1.out _ Ab
      ·exact HU2.out _ Ab
     rw [<- If] at ix;obtain ⟨As,ns,je,rfl⟩:=RSl.slc Uk;have OV:=zH (HVNi.out k);have cv:wr.cell? ⟨gv,k1,vD⟩=vE (ve Ax i cx):=by
      rw [kv.cell,HK1.out,yW ra,Sv]
     obtain ⟨z,hz⟩:=zEX (Mc L.p (Nc ri k) ws);have Ik:=zH (fun w' (hb:vA w.1.size w w') (hl':RLin w' [ve As ns je] (Nc ri k))=>by have:=HVl.out As ns je (Nc ri k) w' hb hl';rw [<- hz] at this;exact this)
     rw [<- hz] at OV;have zl:=zH Sv;have cl:=klr.cell;have ll:=klr.lt;have lv:=kv.lt;clear If hz Sv;generalize Nc ri k=lside at *;go_upto_region 10 with fail
     refine JA (fo N N) [10,11,12,14] [14] [0,1,2,3,4,5,6,7,8,9,10,11,12,13,14] (by kernel_rfl) (by kernel_rfl) ?_
     refine LA (Yb N N) ?_;intro Wc Ha ea;have Ja:=Tf Ha;have jc:N <= Wc.1.size:=by have:=Ja.size;omega
     replace kv:=ia kv Ja;replace xa:=Xb xa Ja zR;replace Ab:=ma Ab Ja;replace h3:=yP h3 Ja;replace Uk:=gh _ _ _ _ Ja Uk;replace tc:=(Yb gv N).trans _ _ _ tc (Ii Ja sn);clear Ha Ja;refine Fk ?_;refine Gt (Yb N N) rfl rfl rfl (fun _=>by go_simp <;> rfl) ((Ik.out _ Ab Uk).mono ?_)
     rintro e w6 ⟨rfl,Ec⟩;refine ⟨_,rfl,fun _=>Ii Ec jc,?_⟩
     replace ea:=(Yb N N).trans _ _ _ ea (Ii Ec jc);refine zPU ?_;have tu:N <= w6.1.size:=by have:=Ec.size;omega
     replace kv:=ia kv Ec;replace xa:=Xb xa Ec zR;replace Ab:=ma Ab Ec;replace h3:=yP h3 Ec;replace tc:=(Yb gv N).trans _ _ _ tc (Ii Ec jc);clear Ec Uk;refine Fk ?_;refine Ui (Yb N N) rfl rfl rfl ?_;go_simp;have ja:=(za w6.1.size w6).alloc zR (.cells #[vd vn z] 22);have xh:=Ku w6 (vd vn z) 22;refine ⟨fun _=>Ii ja tu,?_⟩
     replace kv:=ia kv ja;replace xa:=Xb xa ja zR;replace Ab:=ma Ab ja;replace h3:=yP h3 ja;replace tc:=(Yb gv N).trans _ _ _ tc (Ii ja tu);have Og:=jb tu ja.size
     refine zPU ?_
     generalize w6.alloc _=w7 at kv xa h3 tc xh Ab Og |-;generalize w6.1.size=g6 at xh |-;clear ja tu ea cl cv;have ea:=(Yb N N).refl w7;refine Fk ?_;refine Ui (Yb N N) rfl rfl rfl ?_;refine Ew _ _ rfl Hp rfl (by rw [zl.out] at xa;exact xa) rfl xh (Ck [z]) (by omega) Og ?_
     intro v' wn Kb Va Zb;have Jd:∀ q,(ve Ax i cx).ownBlock=vE q -> N <= q:=fun q e=>by rw [<- zl.out] at e;exact (xa.lt q e).1
     refine ⟨fun _=>Hx Va Og Jd,?_⟩
     replace kv:=kv.grown Va (fun e=>by first | (have:=Jd _ e;omega) | (have:=Jd _ e.symm;omega))
     replace tc:=(Yb gv N).trans _ _ _ tc (Hx Va Og Jd);replace Kb:wn.ownsRow N 22 1 v' (i+1) (Ia ((vals k).take (i+1))):=dA (b:=[z]) Kb OV.out;have h4:=r3_app (x:=v') h3 ra (by simpa using Kb) (by rw [zl.out];exact Va) (by rw [zl.out];exact Zb)
     obtain ⟨Aw,cw,rfl,-⟩:=ud Kb;have Jg:=jb Og Va.size;clear xa Va Zb Jd Og xh ea h3 Kb;have ea:=(Yb N N).refl wn;have cv:wn.cell? ⟨gv,k1,vD⟩=vE (ve Ax i cx):=by
      rw [kv.cell,HK1.out,yW ra,zl.out]
     have fv2:=kv.frozen
     refine zPU ?_
     refine Fk ?_;refine Ui (Yb N N) rfl rfl rfl ?_;go_simp;refine ⟨fun h=>Bool.noConfusion h,?_⟩
     have Xa:=Bj (w:=wn) gv k1 (ve Aw (i+1) cw);replace kv:=kv.set_ k1 (ve Aw (i+1) cw);rw [HK1.out,W9 ra,<- HK1.out] at kv;have h4:=r3_set h4 Xa nv;replace tc:=(Yb gv N).trans _ _ _ tc (gH Xa Jg);replace Jg:=jb Jg Xa.size;clear Xa cv fv2 ea;generalize wn.setCell _ _=wz at kv h4 tc Jg |-;have ea:=(Yb N N).refl wz;refine Fk ?_;refine KA ?_;have h5:mz N wz (Nu xs k (ve Aw (i+1) cw)) (fun j=>if j<k1 then i+1 else i) vals:=by
      have e:(fun j=>if j=k then (fun j=>if j<k then i+1 else i) k+1 else (fun j=>if j<k then i+1 else i) j)=(fun j=>if j<k1 then i+1 else i):=by
       funext j
       rw [HK1.out];by_cases e1:j=k
       ·subst e1;simp
       ·by_cases e2:j<k
        ·simp [e1,e2,show j<k+1 by omega]
        ·simp [e1,e2,show ¬j<k+1 by omega]
      rw [e] at h4;exact h4
     clear h4;have Zl:=zH (show k1 <= 3 by omega)
     go_wp2
     go_roundw
     case rel=>exact ⟨k1,Nu xs k (ve Aw (i+1) cw),Zl.out,by rw [HK1.out];go_num,kv,h5,tc,Jg⟩
     case measure=>simp [intOf];omega
    ·obtain rfl:k=3:=by omega
     have h3':mz N wr xs (fun _=>i1) vals:=by
      refine ⟨fun j hj=>?_,h3.2⟩
      have:=h3.1 j hj;simp only [Qa hj] at this;rw [Ru.out];exact this
     clear h3;have HEE:=zH (show i1 <= rows.length by have:=Wb.out;have:=Ru.out;omega)
     go_wp2_with fail
     go_roundw
     case rel=>exact ⟨i1,xs,HEE.out,by rw [Ru.out];go_num,klr,ktr,kv,h3',Ab,sn⟩
     case measure=>have:=Wb.out;simp [intOf];omega
  ·obtain rfl:i=rows.length:=by omega
   have q2:¬((rows.length:Int)<rows.length):=by omega
   have h0:=h3.1 0 (by omega)
   have h1:=h3.1 1 (by omega)
   have h2:=h3.1 2 (by omega)
   rw [Vt.out] at h0 h1 h2;obtain ⟨A1,c1,e1,h0⟩:=KU h0 (HVT.out 0);obtain ⟨A2,c2,e2,h1⟩:=KU h1 (HVT.out 1);obtain ⟨A3,c3,e3,h2⟩:=KU h2 (HVT.out 2);have hv:=Bb da eF;have HH:=zH (fun (w':vw) (hb:vA wr.1.size wr w')=>HCut.out V0 (xs 0) (xs 1) (xs 2) (ws.drop s) (vals 0) (vals 1) (vals 2) w' (fun i hi=>by
    rw [e1,e2,e3];rcases (show i=0 \/ i=1 \/ i=2 \/ i=3 by omega) with rfl | rfl | rfl | rfl
    ·exact Bb hb hv
    ·exact Bb hb h0
    ·exact Bb hb h1
    ·exact Bb hb h2) (fun i hi=>by
    rcases (show i=0 \/ i=1 \/ i=2 \/ i=3 by omega) with rfl | rfl | rfl | rfl
    ·exact HQ.out.1
    ·exact HQ.out.2 0
    ·exact HQ.out.2 1
    ·exact HQ.out.2 2))
   rw [e1,e2,e3,HV0.out] at kv HH;have cl:=kl.cell;have cv:=kv.cell;have ll:=kl.lt;have lv:=kv.lt;clear h3 h0 h1 h2 hv e1 e2 e3;go_wp2_with fail
   refine (HH.out _ (za _ _)).mono ?_;rintro e w9 ⟨v,rfl,hov,ta⟩;go_wp2;go_ret
   exact ⟨_,rfl,hov.mono da.size,ma da ta⟩
end Go.Proofs.YteoghgbnielkpaaGreat
