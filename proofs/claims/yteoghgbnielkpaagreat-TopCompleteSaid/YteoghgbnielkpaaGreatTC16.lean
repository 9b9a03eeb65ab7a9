/- A part of the proof. No condition. -/
import Derived.Test.YteoghgbnielkpaaGreatTC13
import Derived.Test.YteoghgbnielkpaaGreatTC14

set_option maxRecDepth 100000
set_option maxHeartbeats 8000000
set_option linter.unusedVariables false
set_option linter.unusedSimpArgs false
namespace Go.Proofs.YteoghgbnielkpaaGreat
open Go.RowKit Go.Maps
open Tryz
open Go renaming World->vw, Value->vx, Addr->vy, TypeId->vz, Calls->vB
open Go.Value renaming int->vd, slice->ve, agg->vf
open Go.IntKind renaming u64->vn, i64->vq
open Go.Ending renaming returned->vl
open Go.RowKit renaming Below->vA
open Go.World renaming setCell->vF
open Go.Act renaming put->vG
open Option renaming none->vD, some->vE
structure PvIn where
 L:Ma
 dd:Nat
 pub:Nat
 dg:Nat
 rows:List Ua
 ws:List Nat
 m:List (List Nat)
 crs:List (List Nat)
 l1:List Nat
 l2:List Nat
 l3:List Nat
 l4:List Nat
def PvIn.cols (x:PvIn):List (List Nat):=(List.range x.L.n).map fun i=>(List.range (x.m.length+3)).map (Js x.L (Fj x.L x.m x.crs x.l1 x.l2 x.l3) i)
def PvIn.pu (x:PvIn):List Nat:=(x.ws.drop 1).take x.pub
def PvIn.t1 (x:PvIn) (O:Ha):Tr:=Jd O x.L x.dg x.pu
def PvIn.o2 (x:PvIn) (O:Ha):Ha:=Jw x.dd (Vb (x.t1 O).O 16 (qg x.cols x.l4)) (Le (x.t1 O).O 16 (qg x.cols x.l4))
def PvIn.tree (x:PvIn) (O:Ha):List (List Nat):=Hg x.dd (Vb (x.t1 O).O 16 (qg x.cols x.l4)) (Le (x.t1 O).O 16 (qg x.cols x.l4))
def PvIn.root (x:PvIn) (O:Ha):Nat:=yp (x.tree O)
def PvIn.ch (x:PvIn) (O:Ha):ChR:=fj ⟨x.o2 O,(x.t1 O).st,0⟩ x.L.p (x.root O)
def PvIn.t2 (x:PvIn) (O:Ha):Tr:=Td ⟨x.o2 O,(x.t1 O).st,0⟩ (x.root O)
def PvIn.code (x:PvIn) (al:Nat):List Nat:=(List.range x.L.k).map (uA x.L.p x.L.k al (fun k=>x.l1.getD k 0) (Hx x.L x.m x.crs) x.m.length)
def PvIn.lin (x:PvIn) (rh:Nat):List Nat:=(List.range (x.L.k+x.L.block-1)).map (xA x.L.p (x.L.k+x.L.block-1) (fun k=>(sg x.L x.l2).getD k 0) (xB x.L (ov x.L x.pub rh x.rows) x.m x.crs) x.m.length)
def PvIn.quad (x:PvIn) (be:Nat):List Nat:=(List.range (2*x.L.k-1)).map (Iy x.L.p x.L.k (2*x.L.k-1) be (tg x.L.p x.L.block x.l3 x.l3.length) (Ix x.L x.m x.crs) (nE x.L x.m x.crs) x.L.b)
def PvIn.all (x:PvIn) (O:Ha):List Nat:=x.code (x.ch O).al++x.lin (x.ch O).rh++x.quad (x.ch O).be
def PvIn.pos (x:PvIn) (O:Ha):List Nat:=Cl (x.t2 O) (x.all O) x.L.n x.L.queries
def PvIn.oF (x:PvIn) (O:Ha):Ha:=Hi (x.t2 O) (x.all O) x.L.queries
def PvIn.pr (x:PvIn) (O:Ha):se:=⟨x.root O,x.code (x.ch O).al,x.lin (x.ch O).rh,x.quad (x.ch O).be,(x.pos O).map fun i=>x.cols.getD i [],(x.pos O).map fun i=>x.l4.getD i 0,(x.pos O).map fun i=>Fi (x.tree O) i⟩
def Pd (O Z:Ha):Prop:=∀ lab el a,Fk O lab el a -> Fk Z lab el a
theorem dh {O Y Z:Ha} (h:Pd O Y) (k:Pd Y Z):Pd O Z:=fun _ _ _ a=>k _ _ _ (h _ _ _ a)
theorem GA (O:Ha) (lab:Nat) (el:List Nat):Pd O (Pc O lab el):=fun _ _ _ h=>iY h lab el
theorem VK (O:Ha) (lab:Nat) (qs:List (List Nat)):Pd O (Vb O lab qs):=fun _ _ _ h=>iS h lab qs
theorem X9:∀ (d:Nat) (O:Ha) (l:List Nat),Pd O (Jw d O l)
 | 0,_,_=>fun _ _ _ h=>h
 | d+1,O,l=>dh (VK O 17 (Md l)) (X9 d _ _)
theorem mJ {O Z:Ha} {lab:Nat} {el:List Nat} (h:Pd (Pc O lab el) Z):me Z lab el=me O lab el /\ Pc Z lab el=Z:=by
 by_cases he:Xc el=true
 ·have:=gY (h _ _ _ (RZ O lab he))
  exact ⟨this.2.1,this.1⟩
 ·constructor
  ·unfold me
   rw [ya he,ya he]
  ·unfold Pc
   rw [ya he]
theorem SV {lab:Nat}:∀ (qs:List (List Nat)) {O Z:Ha},Pd (Vb O lab qs) Z -> Vb Z lab qs=Z
 | [],_,_,_=>rfl
 | q :: qs,O,Z,h=>by
  have h1:Pd (Pc O lab q) Z:=dh (VK (Pc O lab q) lab qs) h;show Vb (Pc Z lab q) lab qs=Z
  rw [(mJ h1).2];exact SV qs (O:=Pc O lab q) h
theorem bN {O Z:Ha} {st ct tag:Nat} {l:List Nat} (h:Pd (Kg ⟨O,st,ct⟩ tag l).O Z):Kg ⟨Z,st,ct⟩ tag l=⟨Z,(Kg ⟨O,st,ct⟩ tag l).st,0⟩:=by
 have:=mJ h;simp only [Kg] at *;rw [this.1,this.2]
theorem cN {O Z:Ha} {st ct:Nat} (h:Pd (uc ⟨O,st,ct⟩).O Z):uc ⟨Z,st,ct⟩=⟨Z,st,ct+1⟩:=by
 have:=mJ h;simp only [uc] at *;rw [this.2]
theorem zHG (O:Ha) (st root:Nat):Pd O (Td ⟨O,st,0⟩ root).O:=by
 have h:∀ s:Tr,Pd s.O (uc s).O:=fun s=>GA s.O 19 [s.st,s.ct]
 have h0:Pd O (Kg ⟨O,st,0⟩ 2 [root]).O:=GA O 18 [st,2,root];unfold Td;exact dh h0 (dh (h _) (dh (h _) (h _)))
theorem zHH (s:Tr) (all:List Nat) (q:Nat):Pd s.O (Hi s all q):=by
 have h0:Pd s.O (Kg s 3 all).O:=GA s.O 18 (s.st :: 3 :: all);unfold Hi;exact dh h0 (VK _ _ _)
theorem O8 {O Z:Ha} {st root:Nat} (h:Pd (Td ⟨O,st,0⟩ root).O Z):Td ⟨Z,st,0⟩ root=⟨Z,(Td ⟨O,st,0⟩ root).st,3⟩:=by
 obtain ⟨a,ha⟩:=zEX (Kg ⟨O,st,0⟩ 2 [root]);have hc:a.ct=0:=by rw [ha];rfl
 have e:Td ⟨O,st,0⟩ root=uc (uc (uc a)):=by rw [ha];rfl
 rw [e] at h |-;have h2:Pd (uc (uc a)).O Z:=dh (GA _ _ _) h;have h1:Pd (uc a).O Z:=dh (GA _ _ _) h2;have h0:Pd a.O Z:=dh (GA _ _ _) h1;show uc (uc (uc (Kg ⟨Z,st,0⟩ 2 [root])))=_
 rw [bN (by rw [<- ha];exact h0),<- ha]
 have r1:uc ⟨Z,a.st,0⟩=⟨Z,a.st,1⟩:=cN (O:=a.O) (by rw [<- hc];exact h1)
 have e1:(⟨(uc a).O,a.st,1⟩:Tr)=uc a:=by simp [uc,hc]
 have r2:uc ⟨Z,a.st,1⟩=⟨Z,a.st,2⟩:=cN (O:=(uc a).O) (by rw [e1];exact h2)
 have e2:(⟨(uc (uc a)).O,a.st,2⟩:Tr)=uc (uc a):=by simp [uc,hc]
 have r3:uc ⟨Z,a.st,2⟩=⟨Z,a.st,3⟩:=cN (O:=(uc (uc a)).O) (by rw [e2];exact h)
 rw [r1,r2,r3]
 rfl
theorem zGZ {O Z:Ha} {st ct q:Nat} {all:List Nat} (h:Pd (Hi ⟨O,st,ct⟩ all q) Z):Hi ⟨Z,st,ct⟩ all q=Z:=by
 have ha:Pd (Kg ⟨O,st,ct⟩ 3 all).O Z:=dh (VK _ _ _) h;unfold Hi;rw [bN ha];exact SV _ h
theorem LW:∀ (d:Nat) (O:Ha) (l:List Nat),Gl O -> (∀ x∈l,x<zb) -> ∀ r∈Hg d O l,∀ x∈r,x<zb
 | 0,_,l,_,hl=>fun r hr x hx=>by
  have e:r=l:=by simpa [Hg] using hr
  subst e;exact hl x hx
 | d+1,O,l,hO,hl=>fun r hr x hx=>by
  rcases Dh.1 (show r∈l :: Hg d (Vb O 17 (Md l)) (Le O 17 (Md l)) from hr) with e | e
  ·subst e
   exact hl x hx
  ·exact LW d _ _ (JJ hO 17 _) (LJ hO 17 _) r e x hx
theorem WJ {l:List Nat} (hl:∀ x∈l,x<zb) (i:Nat):l.getD i 0<zb:=by
 by_cases h:i<l.length
 ·exact hl _ (Cv 0 h)
 ·rw [Cb,Co (by omega)]
  decide
theorem cW {ls:List (List Nat)} (h:∀ r∈ls,∀ x∈r,x<zb) (k j:Nat):(ls.getD k []).getD j 0<zb:=by
 by_cases hk:k<ls.length
 ·exact WJ (h _ (Cv [] hk)) j
 ·have e:ls.getD k []=[]:=by rw [Cb,Co (by omega)];rfl
  rw [e];show 0<zb
  decide
theorem rV {ls:List (List Nat)} (h:∀ r∈ls,∀ x∈r,x<zb) (i:Nat):∀ x∈Fi ls i,x<zb:=by
 rw [QM];intro x hx;obtain ⟨k,_,rfl⟩:=Ed.1 hx;exact cW h _ _
theorem R8 {ls:List (List Nat)} (h:∀ r∈ls,∀ x∈r,x<zb):yp ls<zb:=by
 unfold yp;cases ls with
 | nil=>decide
 | cons a r =>
  refine WJ (h _ ?_) 0;rw [List.getLastD_cons];cases r with
  | nil=>exact .head _
  | cons b q=>rw [List.getLastD_eq_getLast?,List.getLast?_eq_some_getLast (List.cons_ne_nil b q)];exact .tail _ (List.getLast_mem _)
theorem R6:∀ (d:Nat) {O:Ha} {k:Nat} (l:List Nat),l.length=2^d -> pc O k -> pc (Jw d O l) (k+2^d)
 | 0,_,_,_,_,h=>uf h (by omega)
 | d+1,O,k,l,hl,h=>by
  have e:l.length / 2=2^d:=by rw [hl,If];omega
  have h1:=aD (lab:=17) (Md l) h;rw [sK,e] at h1;refine uf (R6 d (Le O 17 (Md l)) (by rw [zy,sK,e]) h1) ?_
  rw [If];omega
theorem zET {p:Nat} (h:Fb p=true):p <= zb:=by
 rcases Dt h with rfl | rfl | rfl | rfl | rfl | rfl | rfl <;> decide
theorem TV {O Z:Ha} {L:Ma} {dg:Nat} {l:List Nat} (h:Pd (Jd O L dg l).O Z):Jd Z L dg l=⟨Z,(Jd O L dg l).st,0⟩:=bN h
theorem E9 (O:Ha) (st root:Nat):(Td ⟨O,st,0⟩ root).ct=3:=rfl
theorem N8 {Z:Ha} {s:Tr} {all:List Nat} {q:Nat} (hc:s.ct=3) (h:Pd (Hi s all q) Z):Hi ⟨Z,s.st,3⟩ all q=Z:=by
 cases s
 simp only at hc;subst hc;exact zGZ h
theorem zBb {O O2 Z:Ha} {L:Ma} {dg root q:Nat} {l all:List Nat} (h1:Pd (Jd O L dg l).O Z) (h2:Pd (Td ⟨O2,(Jd O L dg l).st,0⟩ root).O Z) (h3:Pd (Hi (Td ⟨O2,(Jd O L dg l).st,0⟩ root) all q) Z) :
  Hi (Td (Jd Z L dg l) root) all q=Z:=by
 rw [TV h1,O8 h2];exact N8 (E9 _ _ _) h3
section
variable (x:PvIn) (O:Ha)
theorem PvIn.cols_len:x.cols.length=x.L.n:=by simp [PvIn.cols]
theorem PvIn.cols_row (l:List Nat) (h:l∈x.cols):l.length=x.m.length+3:=by
 obtain ⟨i,-,rfl⟩:=Ed.1 h;simp
theorem PvIn.cols_els (hp:Fb x.L.p=true):∀ l∈x.cols,Xc l=true:=fun l h=>by
 obtain ⟨i,-,rfl⟩:=Ed.1 h;unfold Xc;rw [fe];intro y hy;obtain ⟨j,-,rfl⟩:=Ed.1 hy;have h1:=uO (p:=x.L.p) (by have:=Pb hp;omega) x.L.n x.L.n.log2 ((Fj x.L x.m x.crs x.l1 x.l2 x.l3).getD j []) (Kb x.L.p).1 i
 have h2:=zET hp;exact tb (show Js _ _ _ _<zb from Kc h1 h2)
theorem PvIn.sub1:Pd (x.t1 O).O (x.o2 O):=dh (VK _ _ _) (X9 _ _ _)
theorem PvIn.sub2:Pd (x.o2 O) (x.t2 O).O:=zHG _ _ _
theorem PvIn.sub3:Pd (x.t2 O).O (x.oF O):=zHH _ _ _
theorem PvIn.again:Hi (Td (Jd (x.oF O) x.L x.dg x.pu) (x.root O)) (x.all O) x.L.queries=x.oF O :=
 zBb (O:=O) (O2:=x.o2 O) (dh (x.sub1 O) (dh (x.sub2 O) (x.sub3 O))) (x.sub3 O) fun _ _ _ h=>h
theorem PvIn.code_lt (hp:0<x.L.p) (h:∀ y∈x.l1,y<x.L.p) (al:Nat):∀ y∈x.code al,y<x.L.p:=fun y hy=>by
 obtain ⟨k,-,rfl⟩:=Ed.1 hy;exact pQ hp (fun k=>Bv hp h k) _ _
theorem PvIn.lin_lt (hp:0<x.L.p) (h:∀ y∈x.l2,y<x.L.p) (rh:Nat):∀ y∈x.lin rh,y<x.L.p:=fun y hy=>by
 obtain ⟨k,-,rfl⟩:=Ed.1 hy;refine sQ hp (fun k=>?_) _ _
 cases k with
 | zero=>exact yM hp _ _
 | succ k=>exact Bv hp h k
theorem PvIn.quad_lt (hp:0<x.L.p) (be:Nat):∀ y∈x.quad be,y<x.L.p:=fun y hy=>by
 obtain ⟨k,-,rfl⟩:=Ed.1 hy;exact SM hp (fun k=>DD hp _ _ _) _ _
theorem PvIn.tree_lt (h:Gl (x.t1 O).O):∀ r∈x.tree O,∀ y∈r,y<zb:=LW _ _ _ (JJ h 16 _) (LJ h 16 _)
theorem PvIn.o2_le {k:Nat} (hn:x.L.n=2^x.dd) (h:pc (x.t1 O).O k):pc (x.o2 O) (k+2*x.L.n):=by
 have h1:=aD (lab:=16) (qg x.cols x.l4) h;rw [rK,x.cols_len] at h1;have h2:=R6 x.dd (Le (x.t1 O).O 16 (qg x.cols x.l4)) (by rw [zy,rK,x.cols_len,hn]) h1
 rw [<- hn] at h2;exact uf h2 (by omega)
end
theorem zGr {w w7 w16 wr wf:vw} {F F4:Nat -> Prop} {gP N R:Nat} (hb:vA w.1.size w w7) (hF:∀ j,F j -> j<w.1.size) (m:Moved F F4 w7 w16) (hN5:N <= w16.1.size) (QH:w16.1.size <= N) (hgP:w7.1.size <= gP) (hgN:gP<N) (hR:w.1.size <= R) (hR7:R<w7.1.size)
  (jc:so gP N w16 wr) (Ti:N <= wr.1.size) (Iv:∀ j,j≠R -> wf.1[j]?=wr.1[j]?) (hfs:wf.1.size=wr.1.size) (ho:wf.os=wr.os /\ wf.tape=wr.tape /\ wf.output=wr.output) (h16:∀ j,F4 j -> j<w16.1.size) (nP4:¬F4 gP) :
  (∀ j,F4 j -> wf.1[j]?=w16.1[j]?) /\ w16.1.size <= wf.1.size /\ Moved F F4 w wf /\ ∀ u,ij (fun b=>w.1.size <= b /\ b<wf.1.size /\ ¬F4 b) wf u ->
   (∀ j,w.1.size <= j -> j<N -> j≠gP -> j≠R -> ¬F4 j -> u.1[j]?=w16.1[j]?) /\ (∀ j,N <= j -> j<wr.1.size -> u.1[j]?=wr.1[j]?) /\ (∀ j,R<j -> j<w7.1.size -> u.1[j]?=w7.1[j]?) /\ w7.1.size <= u.1.size:=by
 have s1:=hb.size;have s2:=m.size;have hA:∀ j,j<N -> j≠gP -> j≠R -> wf.1[j]?=w16.1[j]?:=fun j h1 h2 h3=>(Iv j h3).trans (jc.2.2.2.2 j h1 h2)
 have hB7:∀ j,j<w7.1.size -> ¬F j -> j≠R -> wf.1[j]?=w7.1[j]?:=fun j h1 h2 h3=>(hA j (by omega) (by omega) h3).trans (m.block j h1 h2)
 refine ⟨fun j hj=>hA j (by have:=h16 j hj;omega) (fun e=>nP4 (e ▸ hj)) (fun e=>?_),by omega,⟨ho.1.trans (jc.1.trans (m.os.trans hb.os)),ho.2.1.trans (jc.2.1.trans (m.tape.trans hb.tape)),ho.2.2.trans (jc.2.2.1.trans (m.output.trans hb.output)),by omega,fun j h1 h2=>(hB7 j (by omega) h2 (by omega)).trans (hb.block j h1),fun j hj=>(m.foot j hj).imp id fun h=>by omega⟩,fun u a=>⟨fun j h1 h2 h3 h4 h5=>(a.block j ⟨h1,by omega,h5⟩ (by omega)).trans (hA j h2 h3 h4),fun j h1 h2=>(a.block j ⟨by omega,by omega,fun e=>by have:=h16 j e;omega⟩ (by omega)).trans (Iv j (by omega)),fun j h1 h2=>?_,by have:=a.size;omega⟩⟩
 ·rcases m.foot j hj with h | h
  ·have:=hF j h;omega
  ·omega
 ·refine (a.block j ⟨by omega,by omega,fun e=>?_⟩ (by omega)).trans (hB7 j h2 (fun e=>by have:=hF j e;omega) (by omega))
  rcases m.foot j e with h | h
  ·have:=hF j h;omega
  ·omega
theorem zEq {i Q:Nat} (h:i<Q):Q-(intOf (vd vq ((i+1:Nat):Int))).toNat<Q-(intOf (vd vq i)).toNat:=by
 simp only [intOf,Bk];omega
theorem RK (g:Nat):∀ (xs:List vx) (k:Nat) (w:vw),(ao w g xs k).1.size=w.1.size /\ (ao w g xs k).os=w.os /\ (ao w g xs k).tape=w.tape /\ (ao w g xs k).output=w.output
 | [],_,_=>⟨rfl,rfl,rfl,rfl⟩
 | x :: xs,k,w=>by
  have h:=RK g xs (k+1) (w.setCell ⟨g,k,vD⟩ x);exact ⟨h.1.trans (by simp [vF]),h.2.1.trans rfl,h.2.2.1.trans rfl,h.2.2.2.trans rfl⟩
theorem store7 {w:vw} {g:Nat} {t:vz} {y0 y1 y2 y3 y4 y5 y6:vx} (k:Blk w g t #[y0,y1,y2,y3,y4,y5,y6]) (x0 x1 x2 x3 x4 x5 x6:vx):∃ wf,(((((((w.setCell ⟨g,0,vD⟩ x0).setCell ⟨g,1,vD⟩ x1).setCell ⟨g,2,vD⟩ x2).setCell ⟨g,3,vD⟩ x3).setCell ⟨g,4,vD⟩ x4).setCell ⟨g,5,vD⟩ x5).setCell ⟨g,6,vD⟩ x6)=wf /\ Blk wf g t #[x0,x1,x2,x3,x4,x5,x6] /\ (∀ j,j≠g -> wf.1[j]?=w.1[j]?) /\ wf.1.size=w.1.size /\ wf.os=w.os /\ wf.tape=w.tape /\ wf.output=w.output :=
 ⟨_,rfl,dG [x0,x1,x2,x3,x4,x5,x6] k rfl,fun _ hj=>pD (fun e=>hj e) [x0,x1,x2,x3,x4,x5,x6] 0 w,RK g [x0,x1,x2,x3,x4,x5,x6] 0 w⟩
theorem zGs {w7 w16 wr u:vw} {F4:Nat -> Prop} {gP N R B0 B6 B13 B15 i k1 k2 k3:Nat} {x:PvIn} {O:Ha} {cd ln qd pos:List Nat} {tr:List (List Nat)} {P1 P2 P3 Ac As Ap:Option vy} {p1 p2 p3 ca cs cp:Nat} {xs:Nat -> vx} {nn:Nat -> Nat} {vs:Nat -> List vx}
  (hU:∀ j,B0 <= j -> j<N -> j≠gP -> j≠R -> ¬F4 j -> u.1[j]?=w16.1[j]?) (hV:∀ j,N <= j -> j<wr.1.size -> u.1[j]?=wr.1[j]?) (hW:∀ j,R<j -> j<w7.1.size -> u.1[j]?=w7.1[j]?) (hus:w7.1.size <= u.1.size)
  (b0:B0 <= B13) (b1:R<B13) (b2:gP<B13) (b3:B15 <= N) (b4:R<B6) (b5:B6 <= w7.1.size) (b6:w7.1.size <= N) (n1:∀ b,B13 <= b -> b<B15 -> ¬F4 b)
  (o1:w16.ownsRow B13 22 1 (ve P1 k1 p1) k1 (Oa cd)) (o2:w16.ownsRow B13 22 1 (ve P2 k2 p2) k2 (Oa ln)) (o3:w16.ownsRow B13 22 1 (ve P3 k3 p3) k3 (Oa qd))
  (l1:(∀ b,(ve P1 k1 p1).ownBlock=vE b -> B13 <= b /\ b<B15) /\ (∀ b,(ve P2 k2 p2).ownBlock=vE b -> B13 <= b /\ b<B15) /\ ∀ b,(ve P3 k3 p3).ownBlock=vE b -> B13 <= b /\ b<B15)
  (c1:∀ y∈cd,y<18446744073709551616) (c2:∀ y∈ln,y<18446744073709551616) (c3:∀ y∈qd,y<18446744073709551616) (Gv:cd=x.code (x.ch O).al) (Ng:ln=x.lin (x.ch O).rh) (hqd:qd=x.quad (x.ch O).be)
  (ld:OwnF N wr (i+3) tyF xs nn vs) (Rc:InvP pos x.cols x.l4 (fun z=>Fi tr z) x.dd B6 w7 i xs nn vs) (Xe:pos.length=i) (Nk:pos=x.pos O) (fA:tr=x.tree O) (e0:xs 0=ve Ac i ca) (e1:xs 1=ve As i cs) (e2:xs 2=ve Ap i cp)
  (yC:x.root O<zb) (hsa:Xc x.l4=true) (qy:∀ r∈x.tree O,∀ y∈r,y<zb) :
  gh u (x.pr O) ⟨P1,k1,p1,P2,k2,p2,P3,k3,p3,Ac,i,ca,As,i,cs,Ap,i,cp⟩:=by
 have cU:OwnF N u (i+3) tyF xs nn vs:=⟨fun j hj=>di (ld.own j hj) fun b hb=>hV b ((ld.own j hj).lt b hb).1 ((ld.own j hj).lt b hb).2,ld.apart⟩
 have htk:pos.take i=pos:=WG (by omega)
 refine ⟨Fs yC,?_,?_,?_,?_,?_,?_⟩
 ·show RWd u [ve P1 k1 p1] (x.code (x.ch O).al)
  rw [<- Gv];exact yt (di o1 fun b hb=>by have h1:=l1.1 b hb;exact hU b (by omega) (by omega) (by omega) (by omega) (n1 b h1.1 h1.2)) c1
 ·show RWd u [ve P2 k2 p2] (x.lin (x.ch O).rh)
  rw [<- Ng];exact yt (di o2 fun b hb=>by have h1:=l1.2.1 b hb;exact hU b (by omega) (by omega) (by omega) (by omega) (n1 b h1.1 h1.2)) c2
 ·show RWd u [ve P3 k3 p3] (x.quad (x.ch O).be)
  rw [<- hqd];exact yt (di o3 fun b hb=>by have h1:=l1.2.2 b hb;exact hU b (by omega) (by omega) (by omega) (by omega) (n1 b h1.1 h1.2)) c3
 ·show RSl 1 RWd u [ve Ac i ca] ((x.pos O).map fun k=>x.cols.getD k [])
  rw [<- Nk,<- e0];have hc:=Rc.c;rw [htk] at hc;exact (zEV hc hus (fun b h1 h2=>hW b (by omega) h2) (cU.own 0 (by omega)) b6 b5).here
 ·show RWd u [ve As i cs] ((x.pos O).map fun k=>x.l4.getD k 0)
  rw [<- Nk];have ho:=cU.own 1 (by omega)
  have hs:=Rc.s;rw [htk] at hs;rw [e1,Rc.n1,hs] at ho;exact yt ho fun y hy=>by
   obtain ⟨k,-,rfl⟩:=Ed.1 hy;exact Fs (WJ (fun y hy=>of_decide_eq_true (fe.1 hsa y hy)) k)
 ·show RSl 1 RWd u [ve Ap i cp] ((x.pos O).map fun k=>Fi (x.tree O) k)
  rw [<- Nk,<- fA,<- e2];exact zFS (pf:=fun z=>Fi tr z) cU Rc.p Rc.r Xe fun z y hy=>Fs (rV (by rw [fA];exact qy) z y hy)
theorem p4 {p:Nat} {n:Int} {l:List (Int × Nat)} (h:Lh p n l=true) {i:Nat} (hi:i<l.length):ar p n l i=false:=by
 unfold Lh at h;have h1:=fe.1 h i (Oi.2 hi)
 simpa using h1
theorem KU {p:Nat} {n:Int} {l:List (Int × Nat)} (h:Lh p n l=true):∀ i,i<l.length -> (i:Int) <= (l.getD i (0,0)).1 /\ (l.getD i (0,0)).1<n /\ (l.getD i (0,0)).2<p
 | 0,hi=>by
  have h1:=p4 h hi;unfold ar at h1;simp only [Bool.or_eq_false_iff,mu,Bool.and_eq_false_iff] at h1;omega
 | i+1,hi=>by
  have h1:=p4 h hi;have h2:=KU h i (by omega)
  unfold ar at h1;simp only [Bool.or_eq_false_iff,mu,Bool.and_eq_false_iff,Nat.add_sub_cancel] at h1;omega
theorem LU {p:Nat} {n:Int} {l:List (Int × Nat)} (h:Lh p n l=true) (hn:0 <= n):(l.length:Int) <= n:=by
 by_cases hl:l.length=0
 ·omega
 ·have:=KU h (l.length-1) (by omega)
  omega
theorem MU {p:Nat} {n:Int} {l:List (Int × Nat)} (h:Lh p n l=true):∀ t∈l,0 <= t.1 /\ t.1<n /\ t.2<p:=fun t ht=>by
 obtain ⟨i,hi,rfl⟩:=Hm ht;have:=KU h i hi;rw [Cb,Xb hi] at this;simp only [Option.getD_some] at this;omega
theorem zAj {p:Nat} {pub vars:Int} {rows:List Ua} (h:Nc p pub vars rows=true):∀ r∈rows,Lh p vars r.a=true /\ Lh p vars r.b=true /\ Lh p vars r.c=true:=fun r hr=>by
 unfold Nc at h;rw [mc] at h;have h1:=fe.1 h.2 r hr;unfold qn at h1;rw [mc,mc] at h1;exact ⟨h1.1.1,h1.1.2,h1.2⟩
theorem rJ {p:Nat} {pub vars:Int} {rows:List Ua} (h:Nc p pub vars rows=true):0 <= pub /\ pub<vars /\ vars <= 65536 /\ rows.length <= 16384:=by
 simp only [Nc,mc,Xk,mu] at h;omega
theorem zAk {p:Nat} {pub vars:Int} {rows:List Ua} (h:Nc p pub vars rows=true):pW rows:=fun r hr=>by
 have h1:=zAj h r hr;have h2:=rJ h;have a1:=LU h1.1 (by omega)
 have a2:=LU h1.2.1 (by omega)
 have a3:=LU h1.2.2 (by omega)
 omega
theorem G3:∀ (rows:List Ua),(rows.flatMap yK).length=3*rows.length+2*pG rows
 | []=>rfl
 | r :: rows=>by
  have h1:=G3 rows;rw [List.flatMap_cons,Ni,h1];simp only [yK,rA,Gc,Ni,xg,J3,pG,List.map_cons,List.sum_cons];simp
  omega
theorem EY {p:Nat} {pub vars:Int} {rows:List Ua} (h:Nc p pub vars rows=true) (hs:bH rows):yG p pub vars rows where
 pl:=(Pb (oG h)).2
 pubI:=by have:=rJ h;omega
 varI:=by have:=rJ h;omega
 n:=(rJ h).2.2.2
 sides:=fun r hr k hk=>by
  have h1:=zAk h r hr;unfold Gc;split
  ·exact h1.1
  ·split
   ·exact h1.2.1
   ·exact h1.2.2
 terms:=fun r hr k hk t ht=>by
  have h1:=zAj h r hr;have h2:=rJ h;have h3:=(Pb (oG h)).2;unfold Gc at ht;split at ht
  ·have:=MU h1.1 t ht;omega
  ·split at ht
   ·have:=MU h1.2.1 t ht;omega
   ·have:=MU h1.2.2 t ht;omega
 len:=by
  have h1:=hs (zAk h);simp only [nu,Ni,xg,List.length_nil,G3];omega
theorem zFn (L:Ma) (pu La al be:Nat) (vars:Int) (A AM D0 D1 D2 D3 D4:Option vy) (R c T cM n0 n1 n2 n3 n4 k0 k1 k2 k3 k4:Nat) (rows:List Ua) (m r:List (List Nat)) (co li qu sa:List Nat) (w:vw)
  (hL:Lb L) (hF:eu L pu vars rows) (hr:RSl 3 Ud w [ve A R c] rows) (hV:Dx vars rows)
  (hm:Jg w [ve AM T cM] m) (h0:Jg w [ve D0 n0 k0] r) (h1:RWd w [ve D1 n1 k1] co) (h2:RWd w [ve D2 n2 k2] li) (h3:RWd w [ve D3 n3 k3] qu) (h4:RWd w [ve D4 n4 k4] sa)
  (yj:Jx L r co li qu sa=true) (hmT:m.length=L.a+L.b+L.b+L.b) (zj:∀ x∈m,x.length=L.block) :
  vB prog 65 #[vf (jb L),Tb L.p (pu:Int) vars (ve A R c),ve AM T cM,vf #[ve D0 n0 k0,ve D1 n1 k1,ve D2 n2 k2,ve D3 n3 k3,ve D4 n4 k4],vf #[vd vn al,vd vn La,vd vn be]] w fun e w'=>∃ v1 v2 v3,e=vl (.tuple #[v1,v2,v3]) /\
   w'.ownsRow w.1.size 22 1 v1 L.k (Oa ((List.range L.k).map (uA L.p L.k al (fun k=>co.getD k 0) (Hx L m r) m.length))) /\
   w'.ownsRow w.1.size 22 1 v2 (L.k+L.block-1) (Oa ((List.range (L.k+L.block-1)).map (xA L.p (L.k+L.block-1) (fun k=>(sg L li).getD k 0) (xB L (ov L pu La rows) m r) m.length))) /\
   w'.ownsRow w.1.size 22 1 v3 (2*L.k-1) (Oa ((List.range (2*L.k-1)).map (Iy L.p L.k (2*L.k-1) be (tg L.p L.block qu qu.length) (Ix L m r) (nE L m r) L.b))) /\ vA w.1.size w w':=by
 obtain ⟨jf,Wd⟩:=Pb hL.p;have dK:=hL.b1;have Nz:=hL.b2;have Yj:=hL.q1;have Eu:=hL.q2;have hk:=hL.k;have jC:=hL.a;have Vz:=hL.b;have yg:=hL.nk;obtain ⟨hlen,j0,hj0⟩:=yy hL;have Yh:L.block=2^L.block.log2:=by rw [hj0,rz]
 obtain ⟨ey,VZ,Fv,Wh,To⟩:=cO yj;have hTm:=(Gj hm).1;have hTr:=(Gj h0).1;have Xs:=(Gj hm).2.2.2;have Ra:=(Gj h0).2.2.2;have e1:=(Nb h1).1;have e2:=(Nb h2).1;have e3:=(Nb h3).1;have ME:T=L.a+L.b+L.b+L.b:=by omega
 have Fe:n1=L.k:=by omega
 have Xz:T=n0:=by omega
 subst Fe Xz;obtain ⟨len,Ng⟩:=zEX (L.k+L.block-1);obtain ⟨Di,ZT⟩:=zEX (2*L.k-1);have Vd:n2+1=len:=by omega
 have Um:L.block+n3=Di:=by omega
 have Nv:2 <= len:=by omega
 have XT:2 <= Di:=by omega
 obtain ⟨PH,-⟩:=VP hL Nv (by omega)
 obtain ⟨hM3,-⟩:=VP hL XT (by omega)
 obtain ⟨dI,eI,WE⟩:=WL Nv;obtain ⟨jg,Vo,Mg⟩:=WL XT;have sl:=fun A n c=>(⟨A,n,c,rfl⟩:slc (ve A n c))
 have Lp:=zH (fun w=>by have:=UF L.p L.block L.queries L.k L.n L.secret L.rows L.a L.b L.b L.b w hL.a hL.b hL.b hL.b;rw [<- ME] at this;exact this)
 have Vt:=zH (fun w' (hb:vA w.1.size w w')=>by have:=Y4 L D0 D1 D2 D3 D4 T k0 L.k k1 n2 k2 n3 k3 n4 k4 r co li qu sa w' hL (Dg jA _ _ _ _ hb h0) (Bb hb h1) (Bb hb h2) (Bb hb h3) (Bb hb h4);rw [yj] at this;exact this)
 have Ot:=zH (fun w' (hb:vA w.1.size w w')=>U4 L (ve D0 T k0) (ve D2 n2 k2) (ve D3 n3 k3) (ve D4 n4 k4) D1 L.k k1 co w' (sl _ _ _) (sl _ _ _) (sl _ _ _) (sl _ _ _) (Bb hb h1) (by omega))
 have FG:=zH (fun w' (hb:vA w.1.size w w')=>by have:=V4 L (ve D0 T k0) (ve D1 L.k k1) (ve D3 n3 k3) (ve D4 n4 k4) D2 n2 k2 li w' hL (sl _ _ _) (sl _ _ _) (sl _ _ _) (sl _ _ _) (Bb hb h2) (by omega);rw [Vd] at this;exact this)
 have HQu:=zH (fun w' (hb:vA w.1.size w w')=>by have:=W4 L (ve D0 T k0) (ve D1 L.k k1) (ve D2 n2 k2) (ve D4 n4 k4) D3 n3 k3 qu w' hL (sl _ _ _) (sl _ _ _) (sl _ _ _) (sl _ _ _) (Bb hb h3) (by omega);rw [Um] at this;exact this)
 have DG:=zH (fun w' (hb:vA w.1.size w w')=>z7 L pu La vars A R c rows w' hL hF (Dg Bg _ _ _ _ hb hr) hV)
 have HMl:=zH (fun a b w=>Nq L.p a b w hL.p)
 have HNg:=zH (fun a w=>kZ L.p a w hL.p)
 have CN:=zH (fun A c B d msg rf w hl fF=>by have:=X4 L A B L.block c L.queries d msg rf w hL hl fF rfl (by omega);rw [<- hk] at this;exact this)
 have HInv:=zH (fun A c l w hl=>WQ L.p A L.block c L.block.log2 l w hL.p hl hlen Yh)
 have HMu1:=zH (fun A c B d a b w ha hb=>zAh L.p A B L.block c L.k d ((len-1).log2+1) (Ro len) len a b w hL.p ha hb (by omega) (by omega) (by omega) (by omega) PH dI (by omega) eI WE)
 have HMu3:=zH (fun A c B d a b w ha hb=>zAh L.p A B L.k c L.k d ((Di-1).log2+1) (Ro Di) Di a b w hL.p ha hb (by omega) (by omega) (by omega) (by omega) hM3 jg (by omega) Vo Mg)
 have Ou:=zH (fun s g base gb na ca nb cb mb t F G w ka kb hg hb ht hm=>zA7 L.p s g base gb na ca nb cb mb t F G w hL.p ka kb hg hb ht hm)
 have HSp:=zH (show ∀ (g:Nat) (w:vw),vB prog 146 #[vf (jb L),ve (vE ⟨g,0,vD⟩) T T] w fun e w'=>(∃ X1 X2 X3 c1 c2 c3,e=vl (.tuple #[ve (vE ⟨g,0,vD⟩) L.a T,ve X1 L.b c1,ve X2 L.b c2,ve X3 L.b c3]) /\ (0<L.b -> X1=vE ⟨g,L.a,vD⟩ /\ X2=vE ⟨g,L.a+L.b,vD⟩ /\ X3=vE ⟨g,L.a+L.b+L.b,vD⟩)) /\ vA w.1.size w w' from fun g w=>by
  have hs:=zHy L (vE ⟨g,0,vD⟩) T T L.a (L.a+L.b) (L.a+L.b+L.b) w hL rfl rfl rfl (by omega) zR (by simp [maxLen];omega)
  have a1:L.a+L.b-L.a=L.b:=by omega
  have a2:L.a+L.b+L.b-(L.a+L.b)=L.b:=by omega
  have a3:T-(L.a+L.b+L.b)=L.b:=by omega
  unfold Cz at hs;rw [a1,a2,a3] at hs;refine hs.mono ?_;rintro e w' ⟨rfl,hb⟩;refine ⟨⟨_,_,_,_,_,_,rfl,fun h=>⟨?_,?_,?_⟩⟩,hb⟩
  ·rw [ya (by omega)]
   show vE ((⟨g,0,vD⟩:vy).add L.a)=_
   rw [Sl,Lj]
  ·rw [ya (by omega)]
   show vE ((⟨g,0,vD⟩:vy).add (L.a+L.b))=_
   rw [Sl,Lj]
  ·rw [ya (by omega)]
   show vE ((⟨g,0,vD⟩:vy).add (L.a+L.b+L.b))=_
   rw [Sl,Lj])
 obtain ⟨N1,On⟩:=zEX (Ro len);obtain ⟨N3,Wx⟩:=zEX (Ro Di);have Li:=zH (show len <= N1 /\ Di <= N3 by rw [On,Wx];exact ⟨eI,Vo⟩)
 rw [<- On] at HMu1;rw [<- Wx] at HMu3;obtain ⟨kh,XB⟩:=zEX (ov L pu La rows);have Uy:=zH (show kh.length=T by
  rw [XB];unfold ov Up;rw [qv,qv,qv,qv];simp only [ql,yf,List.range_zero,List.flatMap_nil,List.length_nil];simp
  omega)
 have HCR:=zH (show ∀ x∈kh,x.length=L.block by
  rw [XB];intro x hx;unfold ov at hx;obtain ⟨i,k,-,-,rfl⟩:=dO hx;simp [Lq])
 rw [<- XB] at DG;obtain ⟨Rw,Jz⟩:=zEX (Hx L m r);obtain ⟨Rl,hRl⟩:∃ Rl:Nat -> List Nat,Rl=fun i=>(List.range L.k).map (Rw i):=⟨_,rfl⟩
 obtain ⟨Dv,hDv⟩:=zEX (xB L kh m r);obtain ⟨XY,Qq⟩:=zEX (Ix L m r);obtain ⟨fC,hfC⟩:=zEX (uA L.p L.k al (fun k=>co.getD k 0) Rw)
 obtain ⟨fL,hfL⟩:=zEX (xA L.p len (fun k=>(sg L li).getD k 0) Dv)
 obtain ⟨fQ,hfQ⟩:=zEX (Iy L.p L.k Di be (tg L.p L.block qu n3) XY (fun j=>Rw (L.a+L.b+L.b+j)))
 obtain ⟨P,hP⟩:=zEX (Og L.p al);obtain ⟨P2,QB⟩:=zEX (Og L.p be);have UD:=zH (show ∀ i (h1:i<m.length) (h2:i<r.length),Iu L m[i] r[i]=Rw i from fun i h1 h2=>by
  rw [Jz];unfold Hx;rw [Cb,Cb,Xb h1,Xb h2]
  rfl)
 have tx:=zH (show ∀ i,(List.range L.k).map (Rw i)=Rl i from fun i=>by rw [hRl])
 have HRX:=zH (show ∀ i k,Rw i k<18446744073709551616 from fun i k=>by rw [Jz];exact il (G5 (by omega) _ _ _) Wd)
 have HIX:=zH (show ∀ l k,Xm L.p L.block L.block.log2 l k<18446744073709551616 from fun l k=>il (ic _ (by omega)) Wd)
 have Hp:=zH (show ∀ i (h1:i<kh.length),qA L.p N1 ((len-1).log2+1) ((List.range L.block).map (Xm L.p L.block L.block.log2 kh[i])) (Rl i)=Dv i from fun i h1=>by
  rw [hDv,On,Ng,hRl,Jz];unfold xB Kq;rw [Cb,Xb h1]
  rfl)
 have Jn:=zH (show ∀ j,qA L.p N3 ((Di-1).log2+1) (Rl (L.a+j)) (Rl (L.a+L.b+j))=XY j from fun j=>by
  rw [Qq,Wx,ZT,hRl,Jz]
  rfl)
 have HC0:=zH (show Oa co=Oa ((List.range L.k).map (fC 0)) by rw [hfC];show _=Oa ((List.range L.k).map fun k=>co.getD k 0);rw [BQ co L.k Fv.1])
 have zk:=zH (show ∀ i,fC (i+1)=Nn L.p (P (i+1)) (fC i) (Rw i) L.k from fun i=>by rw [hfC,hP];rfl)
 have Rt:=zH (show Oa (sg L li)=Oa ((List.range len).map (fL 0)) by rw [hfL];show _=Oa ((List.range len).map fun k=>(sg L li).getD k 0);rw [BQ (sg L li) len (by simp [sg];omega)])
 have Cn:=zH (show ∀ i,fL (i+1)=Nn L.p 1 (fL i) (Dv i) len from fun i=>by rw [hfL];rfl)
 have Xy:=zH (show tg L.p L.block qu n3=fQ 0 by rw [hfQ];rfl)
 have qx:=zH (show ∀ j,fQ (j+1)=Nn L.p (Zf L.p (P2 (j+1))) (Nn L.p (P2 (j+1)) (fQ j) (XY j) Di) (Rw (L.a+L.b+L.b+j)) L.k from fun j=>by rw [hfQ,QB];rfl)
 have nx:=zH (show P 0=1 by rw [hP];rfl)
 have QD:=zH (show ∀ i,P (i+1)=P i*al%L.p from fun i=>by rw [hP];rfl)
 have Yy:=zH (show P2 0=1 by rw [QB];rfl)
 have Zy:=zH (show ∀ i,P2 (i+1)=P2 i*be%L.p from fun i=>by rw [QB];rfl)
 have HCX:=zH (show ∀ k,fC T k<18446744073709551616 from fun k=>by
  rw [hfC];exact il (pQ (by omega) (fun k=>Bv (by omega) Fv.2 k) _ _) Wd)
 have fh:=zH (show ∀ k,fL T k<18446744073709551616 from fun k=>by
  rw [hfL];refine il (sQ (by omega) (fun k=>?_) _ _) Wd
  cases k with
  | zero=>exact yM (by omega) _ _
  | succ k=>exact Bv (by omega) Wh.2 k)
 have HQX:=zH (show ∀ k,fQ L.b k<18446744073709551616 from fun k=>by
  rw [hfQ];exact il (SM (by omega) (fun k=>DD (by omega) _ _ _) _ _) Wd)
 rw [<- Ng,<- ZT];have Ip:=zH (show uA L.p L.k al (fun k=>co.getD k 0) (Hx L m r) m.length=fC T by rw [hfC,Jz,hTm])
 have ji:=zH (show xA L.p len (fun k=>(sg L li).getD k 0) (xB L (ov L pu La rows) m r) m.length=fL T by rw [hfL,hDv,XB,hTm])
 have LD:=zH (show Iy L.p L.k Di be (tg L.p L.block qu qu.length) (Ix L m r) (nE L m r) L.b=fQ L.b by rw [hfQ,Qq,Jz,<- e3];rfl)
 rw [Ip.out,ji.out,LD.out];have GG:=zH zj;have HCW:=zH VZ;have HTM:=zH hTm;have HTR:=zH hTr;have gk:4 <= L.k /\ L.k <= 320 \/ 3 <= L.k /\ L.k <= 320:=by omega
 have gk1:3 <= L.k:=by omega
 have gk2:L.k <= 320:=by omega
 have gl1:len <= 600:=by omega
 have gl0:2 <= len:=Nv;have gl3:Di <= 700:=by omega
 have HT4:=zH ME;have gkl:L.k <= Di:=by omega
 have gT:T <= 400000:=by omega
 have mk:=C5 T (by omega)
 have gTi:(T:Int) <= 400000:=by omega
 have gT0:(0:Int)<=T:=by omega
 have d0:((T:Int)!=T)=false:=by simp
 have gb1:2 <= L.block:=dK;have gb2:L.block <= 256:=Nz;have glb:(L.b:Int) <= 100000:=by omega
 clear jf Wd dK Nz Yj Eu hk jC Vz yg hlen hj0 Yh ey VZ Fv Wh To hTm hTr e1 e2 e3 ME Vd Um Nv XT PH hM3 dI eI WE jg Vo Mg hL hF hr hV hm h0 h1 h2 h3 h4 yj hmT zj On Wx XB Jz hRl hDv Qq hfC hfL hfQ hP QB gk Ip ji LD Ng ZT sl;unfold jb Tb fv at *;obtain ⟨kl,kt,kc,kx,da,ib⟩:=BL w 101 25 41 136 #[vd vn L.p,vd vq L.block,vd vq L.queries,vd vq L.k,vd vq L.n,vd vq L.secret,vd vq L.rows,vd vq L.a,vd vq L.b,vd vq L.b,vd vq L.b] #[vd vn L.p,vd vq pu,vd vq vars,ve A R c] #[ve D0 T k0,ve D1 L.k k1,ve D2 n2 k2,ve D3 n3 k3,ve D4 n4 k4] #[vd vn al,vd vn La,vd vn be];go_enter func65,ntmps65
 go_upto_region 1 with fail
 generalize (((w.alloc _).alloc _).alloc _).alloc _=w1 at kl kt kc kx da ib |-;have hN:w.1.size+4 <= w1.1.size:=by omega
 clear ib;have cl:=kl.cell;go_wp2_with fail
 refine (Lp.out _).mono ?_;rintro e w2 ⟨rfl,xa⟩;replace kl:=ja kl xa;replace kt:=ja kt xa;replace kc:=ja kc xa;replace kx:=ja kx xa;replace da:=pa da xa;replace hN:=xb hN xa.size;clear xa cl;have cl:=kl.cell;have cc:=kc.cell;go_wp2_with fail
 refine (Vt.out _ da).mono ?_;rintro e w3 ⟨rfl,xa⟩;replace kl:=ja kl xa;replace kt:=ja kt xa;replace kc:=ja kc xa;replace kx:=ja kx xa;replace da:=pa da xa;replace hN:=xb hN xa.size;clear xa cl cc Lp Vt;have cl:=kl.cell;go_upto_region 4 with fail
 have kf:=Blk.new w3 224 #[vd vn L.p];have ma:=(Ca w3.1.size w3).alloc zR (.cells #[vd vn L.p] 224);replace kl:=ja kl ma;replace kt:=ja kt ma;replace kc:=ja kc ma;replace kx:=ja kx ma;replace da:=pa da ma;generalize w3.alloc _=w4 at kl kt kc kx kf da |-;obtain ⟨gf,hgf⟩:=zEX (w3.1.size);rw [<- hgf] at kf hN |-;have hgf4:=kf.lt;clear ma cl hgf;have cl:=kl.cell;have ll:=kl.lt;have cc:=kc.cell;have lc:=kc.lt;refine zd (Ub) [2,5,8] [0,1,3,4,6,7,2,5,8,9,10,11] (by kernel_rfl) (by kernel_rfl) ?_
 refine Se (ra) ?_;intro Wc Ja ia;have Ka:=Tf Ja;replace kl:=ja kl Ka;replace kt:=ja kt Ka;replace kc:=ja kc Ka;replace kx:=ja kx Ka;replace kf:=ja kf Ka;replace da:=pa da Ka;have hgfW:gf<Wc.1.size:=kf.lt;refine Qb ?_;refine Bc (ra) rfl rfl rfl (fun _=>by go_simp <;> rfl) ((Ot.out _ da).mono ?_)
 rintro e w5 ⟨v1,rfl,o1,Ya⟩;refine ⟨_,rfl,Ya,?_⟩;replace ia:=(ra).trans _ _ _ ia (Ya);refine zPU ?_;obtain ⟨g1,ca1,rfl,jg,hg1'⟩:=World.ownsRow.form o1 (by omega)
 replace o1:=tA o1 da.size;replace kl:=ja kl Ya;replace kt:=ja kt Ya;replace kc:=ja kc Ya;replace kx:=ja kx Ya;replace kf:=ja kf Ya;replace da:=pa da Ya;refine Qb ?_;refine Bc (ra) rfl rfl rfl (fun _=>by go_simp <;> rfl) ((FG.out _ da).mono ?_)
 rintro e w6 ⟨v2,rfl,o2,sc⟩;refine ⟨_,rfl,sc,?_⟩;replace ia:=(ra).trans _ _ _ ia (sc);refine zPU ?_;obtain ⟨g2,ca2,rfl,Vo,hg2'⟩:=World.ownsRow.form o2 (by omega)
 replace o2:=tA o2 da.size;replace kl:=ja kl sc;replace kt:=ja kt sc;replace kc:=ja kc sc;replace kx:=ja kx sc;replace kf:=ja kf sc;replace da:=pa da sc;replace o1:=Mc o1 sc zR;refine Qb ?_;refine Bc (ra) rfl rfl rfl (fun _=>by go_simp <;> rfl) ((HQu.out _ da).mono ?_)
 rintro e w7 ⟨g3,rfl,Mg,k3,xd⟩;refine ⟨_,rfl,xd,?_⟩;replace ia:=(ra).trans _ _ _ ia (xd);refine zPU ?_;replace kl:=ja kl xd;replace kt:=ja kt xd;replace kc:=ja kc xd;replace kx:=ja kx xd;replace kf:=ja kf xd;replace da:=pa da xd;replace o1:=Mc o1 xd zR;replace o2:=Mc o2 xd zR;have UO:=k3.lt;refine Qb ?_;refine Jc ?_;rw [HC0.out] at o1;rw [Rt.out] at o2;rw [Xy.out] at k3;clear Ka Ya sc xd ia Ja cl ll cc lc Ot FG HQu HC0 Rt Xy;have x1:gf<g1:=by omega
 have x2:g1<g2:=by omega
 have x3:g2<g3:=by omega
 have x0:w.1.size+4 <= gf:=hN;clear hgf4 hgfW jg hg1' Vo hg2' Mg hN;go_upto_region 7 with fail
 have kr:=Blk.new w7 28 (Vg T fun _=>ve vD 0 0)
 have ma:=(Ca w7.1.size w7).alloc zR (.cells (Vg T fun _=>ve vD 0 0) 28)
 replace kl:=ja kl ma;replace kt:=ja kt ma;replace kc:=ja kc ma;replace kx:=ja kx ma;replace kf:=ja kf ma;replace da:=pa da ma;replace o1:=Mc o1 ma zR;replace o2:=Mc o2 ma zR;replace k3:=ja k3 ma;generalize w7.alloc _=w8 at kl kt kc kx kf kr da o1 o2 k3 |-;obtain ⟨gr,Va⟩:=zEX (w7.1.size);rw [<- Va] at kr UO |-;have x4:g3<gr:=UO;have hg8:=kr.lt;clear ma Va UO mk;have cl:=kl.cell;have ct:=kt.cell;have cx:=kx.cell;go_wp2_with fail
 refine (DG.out _ da).mono ?_;rintro e w9 ⟨vC,rfl,hC,xa⟩;replace kl:=ja kl xa;replace kc:=ja kc xa;replace kx:=ja kx xa;replace kf:=ja kf xa;replace da:=pa da xa;replace o1:=Mc o1 xa zR;replace o2:=Mc o2 xa zR;replace k3:=ja k3 xa;replace kr:=ja kr xa;obtain ⟨N,hNe⟩:=zEX (w8.1.size);rw [<- hNe] at hC hg8;have hN9:N <= w9.1.size:=by have:=xa.size;omega
 have x5:gr<N:=hg8;clear xa cl ct cx kt DG hNe hg8;obtain ⟨AC,nC,cC,rfl⟩:=RSl.slc hC.here;have hCn:=(Gj hC.here).1;have hnC:nC=T:=by rw [<- hCn];exact Uy.out
 subst hnC;clear hCn;have H1:=zH (show (1:Int)=((P 0:Nat):Int) by rw [nx.out];rfl)
 have H12:=zH (show (1:Int)=((P2 0:Nat):Int) by rw [Yy.out];rfl)
 go_wp2_with fail
 go_loopw [15,61] (fun b y wr=>∃ (i:Nat) (CS:Array vx),i <= nC /\ y=vd vq i /\ b=vd vn (P i:Int) /\ CS.size=nC /\ wr.ownsRow w.1.size 22 1 (ve (vE ⟨g1,0,vD⟩) L.k ca1) L.k (Oa ((List.range L.k).map (fC i))) /\ wr.ownsRow w.1.size 22 1 (ve (vE ⟨g2,0,vD⟩) len ca2) len (Oa ((List.range len).map (fL i))) /\ Blk wr gr 28 CS /\ jL N L.k wr CS i Rw /\ Pw g1 g2 gr w9 wr) (fun _ y _=>nC-(intOf y).toNat)
 case atStart=>exact ⟨0,_,Mb _,rfl,by rw [<- H1.out],by simp [Vg],o1,o2,kr,fun k h=>by omega,zCH _ _ _ _⟩
 case round =>
  clear o1 o2 kr;obtain ⟨i,CS,hi,rfl,rfl,Sx,o1,o2,kr,Hh,hx⟩:=hrel;have Qk:=SL kl hx (by omega) (by omega) (by omega)
  have yc:=SL kf hx (by omega) (by omega) (by omega)
  have xh:=SL kx hx (by omega) (by omega) (by omega)
  have kc1:=SL kc hx (by omega) (by omega) (by omega)
  have Ia:=ex3_to da hx da.size (by omega) (by omega) (by omega)
  by_cases ta:i<nC
  ·have q1:(i:Int)<nC:=by omega
   have q2:(0:Int)<=i:=by omega
   have hic:i<kh.length:=by rw [Uy.out];exact ta
   have dC:i<m.length:=by rw [HTM.out];exact ta
   have hir:i<r.length:=by rw [HTR.out];exact ta
   obtain ⟨bc,qc,Ac,lc0,cc0,rfl,hbcN,hbc,Fv,uI⟩:=n9 hC hic;have z1:lc0=L.block:=by rw [(Nb (uI w9 fun _ _ _=>rfl)).1];exact HCR.out _ (zf hic)
   subst z1;obtain ⟨bm,qm,Am,lm,cm,rfl,hbm,Xl,xC⟩:=Ju Xs dC;have z2:lm=L.block:=by rw [(Nb xC).1];exact GG.out _ (zf dC)
   subst z2;obtain ⟨bk,qk,Ak,lk,ck,rfl,RE,hck,hrk⟩:=Ju Ra hir;have z3:lk=L.queries:=by rw [(Nb hrk).1];exact (HCW.out _ (zf hir)).1
   subst z3;have HRDi:=zH (UD.out i dC hir);have HDDi:=zH (Hp.out i hic);have HRo:Hid (∀ w':vw,vA w.1.size w w' -> vB prog 126 #[vf #[vd vn L.p,vd vq L.block,vd vq L.queries,vd vq L.k,vd vq L.n,vd vq L.secret,vd vq L.rows,vd vq L.a,vd vq L.b,vd vq L.b,vd vq L.b],ve Am L.block cm,ve Ak L.queries ck] w' fun e w2=>∃ g,e=vl (ve (vE ⟨g,0,vD⟩) L.k L.k) /\ w'.1.size <= g /\ Blk w2 g 22 (Qa L.k (Rw i)) /\ vA w'.1.size w' w2):=zH (fun w' hb=>by rw [<- HRDi.out];exact CN.out Am cm Ak ck m[i] r[i] w' (Bb hb xC) (Bb hb hrk))
   obtain ⟨ci,Oz⟩:=zEX (kh[i]);rw [<- Oz] at uI HDDi;have HRC:=zH uI;obtain ⟨y0,IC⟩:=zEX (P i);obtain ⟨y1,Ge⟩:=zEX (P (i+1));have HP1i:=zH (QD.out i);have HC1i:=zH (zk.out i);have HL1i:=zH (Cn.out i);rw [<- IC,<- Ge] at HP1i;rw [<- Ge] at HC1i;rw [<- IC];have HY1:=zH Ge;have Gf:Hid (∀ w:vw,vB prog 142 #[vf #[vd vn L.p],vd vn y0,vd vn al] w fun e w'=>e=vl (vd vn y1) /\ vA w.1.size w w'):=zH (fun w=>by rw [HP1i.out];exact HMl.out y0 al w)
   have cci:=(sE (hx.2 bc hbc (by omega) (by omega) (by omega))).trans Fv
   have cmi:=(Ia.cell (p:=⟨bm,qm+i,vD⟩) hbm).trans Xl;have cki:=(Ia.cell (p:=⟨bk,qk+i,vD⟩) RE).trans hck;have lbm:bm<wr.1.size:=Kc hbm Ia.size;have lbk:bk<wr.1.size:=Kc RE Ia.size;have On:N <= wr.1.size:=xb hN9 hx.1.size;clear IC Ge Oz Fv Xl hck xC hrk uI;have cl:=Qk.cell;have ll:=Qk.lt;have cc:=kc1.cell;have lc:=kc1.lt;go_upto_region 10 with fail
   clear cci;refine NA (Ub) [12,14] [14] [0,1,2,3,4,5,6,7,8,9,10,11,12,13,14] (by kernel_rfl) (by kernel_rfl) ?_
   refine QA (ra) ?_;intro Wc Ja ia;have Ka:=Tf Ja;replace yc:=ja yc Ka;replace xh:=ja xh Ka;replace kr:=ja kr Ka;replace o1:=Mc o1 Ka zR;replace o2:=Mc o2 Ka zR;replace Ia:=pa Ia Ka;replace hx:=Gz hx (yH Ka);replace Hh:=Zu Hh (oE Ka);replace On:=xb On Ka.size;refine qo ?_;refine Jt (ra) rfl rfl rfl (fun _=>by go_simp <;> rfl) ((HRo.out _ Ia).mono ?_)
   rintro e wA ⟨gA,rfl,hgA,kA,ay⟩;refine ⟨_,rfl,fun _=>ay,?_⟩
   replace ia:=(ra).trans _ _ _ ia (ay);refine zPU ?_;replace yc:=ja yc ay;replace xh:=ja xh ay;replace kr:=ja kr ay;replace o1:=Mc o1 ay zR;replace o2:=Mc o2 ay zR;replace Ia:=pa Ia ay;replace hx:=Gz hx (yH ay);replace Hh:=Zu Hh (oE ay);clear ia Ka ay Ja cl ll cc lc cmi cki lbm lbk Qk kc1;have ia:=(ra).refl wA;have tE:=kr.cell i;rw [Array.getElem?_eq_getElem (by omega)] at tE
   have fkr:=kr.frozen;refine qo ?_;refine Ij (ra) rfl rfl rfl ?_;go_simp;refine ⟨fun h=>Bool.noConfusion h,?_⟩
   have Ib:=Hj (w:=wA) gr i (ve (vE ⟨gA,0,vD⟩) L.k L.k);replace kr:=kr.set_ i (ve (vE ⟨gA,0,vD⟩) L.k L.k);have kA0:=kA;replace kA:=kA.grown Ib (fun e=>by have:=Za e;omega)
   replace yc:=yc.grown Ib (fun e=>by have:=Za e;omega)
   replace xh:=xh.grown Ib (fun e=>by have:=Za e;omega)
   replace Hh:=Zu Hh (SN Ib x5);replace o1:=SJ o1 (FB (g1:=gr) (g2:=gr) (g3:=gr) Ib (.inl rfl)) (by omega) (by omega) (by omega)
   replace o2:=SJ o2 (FB (g1:=gr) (g2:=gr) (g3:=gr) Ib (.inl rfl)) (by omega) (by omega) (by omega)
   replace hx:=Gz hx (FB Ib (.inr (.inr rfl)));clear kA0 Ib tE fkr ia Ia;generalize wA.setCell _ _=wB at kr kA yc xh Hh o1 o2 hx |-;have ia:=(ra).refl wB;refine qo ?_;refine OA ?_;replace Hh:=zBE Hh (by omega) (by omega:N <= gA) kA
   have hCS2:(CS.setIfInBounds i (ve (vE ⟨gA,0,vD⟩) L.k L.k)).size=nC:=by simp [Sx]
   have hCi:(CS.setIfInBounds i (ve (vE ⟨gA,0,vD⟩) L.k L.k))[i]?=vE (ve (vE ⟨gA,0,vD⟩) L.k L.k):=by simp [show i<CS.size by omega]
   generalize CS.setIfInBounds i _=CS2 at kr Hh hCS2 hCi;have x6:N <= gA:=by omega
   clear ia Sx hgA On;have cf:=yc.cell;have cx:=xh.cell;go_wp2_with fail
   refine (Gf.out _).mono ?_;rintro e wC ⟨rfl,xa⟩;replace yc:=ja yc xa;replace xh:=ja xh xa;replace kr:=ja kr xa;replace kA:=ja kA xa;replace o1:=Mc o1 xa zR;replace o2:=Mc o2 xa zR;replace Hh:=Zu Hh (oE xa);replace hx:=Gz hx (yH xa);clear xa cf cx;have cf:=yc.cell;have lf:=yc.lt;have tE:=kr.cell i;rw [hCi] at tE;have lr:=kr.lt;have x7:gf≠g1:=by omega
   have x8:gr≠g1:=by omega
   go_upto_region 12 with fail
   refine zd (Km g1) [7] [0,1,2,3,4,5,6,7] (by kernel_rfl) (by kernel_rfl) ?_
   refine Se (Re g1) ?_;intro Wc Ja ia;have Ka:=Tf Ja;replace yc:=ja yc Ka;replace xh:=ja xh Ka;replace kr:=ja kr Ka;replace kA:=ja kA Ka;replace o1:=Mc o1 Ka zR;replace o2:=Mc o2 Ka zR;replace Hh:=Zu Hh (oE Ka);replace hx:=Gz hx (yH Ka);refine oo ?_;refine Bc (Re g1) rfl rfl rfl (fun _=>by go_simp <;> rfl) ((Ou.out y1 g1 w.1.size gA L.k ca1 L.k L.k L.k L.k (fC i) (Rw i) _ o1 kA (by omega) zR (Nat.min_self _).symm (by omega)).mono ?_)
   rintro e wD ⟨rfl,Ct,Sz⟩;refine ⟨_,rfl,Sz,?_⟩;replace ia:=(Re g1).trans _ _ _ ia (Sz);refine zPU ?_;refine oo ?_;refine Jc ?_;rw [<- HC1i.out] at Ct;replace kA:=kA.grown Sz (fun e=>by have:=Za e;omega)
   replace yc:=yc.grown Sz (fun e=>by have:=Za e;omega)
   replace xh:=xh.grown Sz (fun e=>by have:=Za e;omega)
   replace kr:=kr.grown Sz (fun e=>by have:=Za e;omega)
   replace Hh:=Zu Hh (SN Sz (by omega))
   replace o2:=SJ o2 (FB (g1:=g1) (g2:=g1) (g3:=g1) Sz (.inl rfl)) (by omega) (by omega) (by omega)
   replace hx:=Gz hx (FB Sz (.inl rfl));clear ia Ka Ja cf lf tE lr Sz o1;have TB:=zBr (N:=N) hx (by omega) (by omega) (by omega)
   have uI:=HRC.out wD (fun b b1 b2=>TB.2 b b1 b2)
   have cf:=yc.cell;go_wp2_with fail
   refine (HInv.out Ac cc0 ci _ uI).mono ?_;rintro e wE ⟨gE,rfl,hgE,kE,xa⟩;replace yc:=ja yc xa;replace xh:=ja xh xa;replace kr:=ja kr xa;replace kA:=ja kA xa;replace Ct:=Mc Ct xa zR;replace o2:=Mc o2 xa zR;replace Hh:=Zu Hh (oE xa);replace hx:=Gz hx (yH xa);clear xa cf TB uI;have hE:=IB kE (fun k _=>HIX.out ci k) (by simp [maxLen];omega)
   have hA:=IB kA (fun k _=>HRX.out i k) (by simp [maxLen];omega)
   rw [tx.out] at hA;have cf:=yc.cell;have lf:=yc.lt;have tE:=kr.cell i;rw [hCi] at tE;have lr:=kr.lt;go_upto_region 14 with fail
   refine zd (Ub) [6] [0,1,2,3,4,5,6,7,8,9,10,11] (by kernel_rfl) (by kernel_rfl) ?_
   refine Se (ra) ?_;intro Wc Ja ia;have Ka:=Tf Ja;replace yc:=ja yc Ka;replace xh:=ja xh Ka;replace kr:=ja kr Ka;replace Ct:=Mc Ct Ka zR;replace o2:=Mc o2 Ka zR;replace hE:=Bb Ka hE;replace hA:=Bb Ka hA;replace Hh:=Zu Hh (oE Ka);replace hx:=Gz hx (yH Ka);have hW2:g2<Wc.1.size:=(o2.lt g2 rfl).2;refine Qb ?_;refine Bc (ra) rfl rfl rfl (fun _=>by go_simp <;> rfl) ((HMu1.out _ _ _ _ _ _ _ hE hA).mono ?_)
   rintro e wF ⟨gF,rfl,hgF,kF,zi⟩;refine ⟨_,rfl,zi,?_⟩;replace ia:=(ra).trans _ _ _ ia (zi);refine zPU ?_;replace yc:=ja yc zi;replace xh:=ja xh zi;replace kr:=ja kr zi;replace Ct:=Mc Ct zi zR;replace o2:=Mc o2 zi zR;replace Hh:=Zu Hh (oE zi);replace hx:=Gz hx (yH zi);rw [HDDi.out] at kF;refine Qb ?_;refine Jc ?_;clear ia Ka Ja cf lf tE lr zi hE hA kE kA;have x9:g2≠gF:=by omega
   have cf:=yc.cell;go_wp2_with fail
   refine (Ou.out 1 g2 w.1.size gF len ca2 len N1 N1 len (fL i) (Dv i) _ o2 kF x9 Li.out.1 (Nat.min_self _).symm (by omega)).mono ?_
   rintro e wG ⟨rfl,o2',fy⟩;rw [<- HL1i.out] at o2';replace kr:=kr.grown fy (fun e=>by have:=Za e;omega)
   replace Hh:=Zu Hh (SN fy (by omega))
   replace Ct:=SJ Ct (FB (g1:=g2) (g2:=g2) (g3:=g2) fy (.inl rfl)) (by omega) (by omega) (by omega)
   replace hx:=Gz hx (FB fy (.inr (.inl rfl)));clear fy cf kF o2;go_wp2_with fail
   go_roundw
   case rel=>exact ⟨i+1,CS2,by omega,by go_num,by rw [HY1.out],hCS2,Ct,o2',kr,Hh,hx⟩
   case measure=>simp [intOf];omega
  ·obtain rfl:i=nC:=by omega
   have q1:¬((i:Int)<i):=by omega
   have On:N <= wr.1.size:=xb hN9 hx.1.size;have k3r:=SL k3 hx (by omega) (by omega) (by omega)
   obtain ⟨wo,hwo⟩:=zEX (wr);subst hwo;have cl:=Qk.cell;go_wp2_with fail
   refine (HSp.out gr _).mono ?_;rintro e wS ⟨⟨X1,X2,X3,c1,c2,c3,rfl,hX⟩,xa⟩;replace yc:=ja yc xa;replace xh:=ja xh xa;replace kr:=ja kr xa;replace k3r:=ja k3r xa;replace o1:=Mc o1 xa zR;replace o2:=Mc o2 xa zR;replace Ia:=pa Ia xa;replace Hh:=Zu Hh (oE xa);have HX:=zH hX;clear xa cl hX Qk kc1 kl kf kx kc k3 hx;go_wp2_with fail
   go_loopw [15,124] (fun b y wr=>∃ j:Nat,j <= L.b /\ y=vd vq j /\ b=vd vn (P2 j:Int) /\ wr.ownsRow w.1.size 22 1 (ve (vE ⟨g3,0,vD⟩) Di Di) Di (Oa ((List.range Di).map (fQ j))) /\ wS.grownBy wr (vE g3)) (fun _ y _=>L.b-(intOf y).toNat)
   case atStart=>exact ⟨0,Mb _,rfl,by rw [<- H12.out],W6 k3r (by omega) (by simp [maxLen];omega),Ee _ _⟩
   case round =>
    clear k3r;obtain ⟨j,hj,rfl,rfl,o3,hg⟩:=hrel;by_cases hltj:j<L.b
    ·obtain ⟨rfl,rfl,rfl⟩:=HX.out (by omega)
     have q2:(j:Int)<L.b:=by omega
     have q3:(0:Int)<=j:=by omega
     have Xf:=yc.grown hg (fun e=>by have:=Za e;omega)
     have jn:=xh.grown hg (fun e=>by have:=Za e;omega)
     have pg:=kr.grown hg (fun e=>by have:=Za e;omega)
     have lh:=Zu Hh (SN hg (by omega))
     obtain ⟨ga,hca,hga,ka⟩:=lh (L.a+j) (by have:=HT4.out;omega)
     obtain ⟨gb,hcb,Lk,kb⟩:=lh (L.a+L.b+j) (by have:=HT4.out;omega)
     obtain ⟨gz,hcz,hgz,kz⟩:=lh (L.a+L.b+L.b+j) (by have:=HT4.out;omega)
     have ha:=IB ka (fun k _=>HRX.out _ k) (by simp [maxLen];omega)
     have hb:=IB kb (fun k _=>HRX.out _ k) (by simp [maxLen];omega)
     rw [tx.out] at ha hb;obtain ⟨y0,IC⟩:=zEX (P2 j);obtain ⟨y1,Ge⟩:=zEX (P2 (j+1));obtain ⟨nz,hnz⟩:=zEX (Zf L.p y1);have HR1j:=zH (Zy.out j);have HQ1j:=zH (qx.out j);have HXXj:=zH (Jn.out j);rw [<- IC,<- Ge] at HR1j;rw [<- Ge,<- hnz] at HQ1j;rw [<- IC];have HY1:=zH Ge;have Gf:Hid (∀ w:vw,vB prog 142 #[vf #[vd vn L.p],vd vn y0,vd vn be] w fun e w'=>e=vl (vd vn y1) /\ vA w.1.size w w'):=zH (fun w=>by rw [HR1j.out];exact HMl.out y0 be w)
     have En:Hid (∀ w:vw,vB prog 147 #[vf #[vd vn L.p],vd vn y1] w fun e w'=>e=vl (vd vn nz) /\ vA w.1.size w w'):=zH (fun w=>by rw [hnz];exact HNg.out y1 w)
     clear IC Ge hnz ka kb;have cf:=Xf.cell;have cx:=jn.cell;go_wp2_with fail
     refine (Gf.out _).mono ?_;rintro e wC ⟨rfl,xa⟩;replace Xf:=ja Xf xa;replace pg:=ja pg xa;replace kz:=ja kz xa;replace ha:=Bb xa ha;replace hb:=Bb xa hb;replace o3:=Mc o3 xa zR;replace hg:=Nf hg xa hg.size;clear xa cf cx jn lh;have cf:=Xf.cell;have lf:=Xf.lt;have cra:=pg.cell (L.a+j);have crb:=pg.cell (L.a+L.b+j);rw [hca] at cra;rw [hcb] at crb;have lr:=pg.lt;go_upto_region 23 with fail
     refine zd (Ub) [9] [0,1,2,3,4,5,6,7,8,9,10,11,12,13,14] (by kernel_rfl) (by kernel_rfl) ?_
     refine Se (ra) ?_;intro Wc Ja ia;have Ka:=Tf Ja;replace Xf:=ja Xf Ka;replace pg:=ja pg Ka;replace kz:=ja kz Ka;replace ha:=Bb Ka ha;replace hb:=Bb Ka hb;replace o3:=Mc o3 Ka zR;replace hg:=Nf hg Ka hg.size;have hW3:g3<Wc.1.size:=(o3.lt g3 rfl).2;refine Qb ?_;refine Bc (ra) rfl rfl rfl (fun _=>by go_simp <;> rfl) ((HMu3.out _ _ _ _ _ _ _ ha hb).mono ?_)
     rintro e wF ⟨gF,rfl,hgF,kF,zi⟩;refine ⟨_,rfl,zi,?_⟩;replace ia:=(ra).trans _ _ _ ia (zi);refine zPU ?_;replace Xf:=ja Xf zi;replace pg:=ja pg zi;replace kz:=ja kz zi;replace o3:=Mc o3 zi zR;replace hg:=Nf hg zi hg.size;rw [HXXj.out] at kF;refine Qb ?_;refine Jc ?_;clear ia Ka Ja cf lf cra crb lr zi ha hb;have x9:g3≠gF:=by omega
     have cf:=Xf.cell;go_wp2_with fail
     refine (Ou.out y1 g3 w.1.size gF Di Di Di N3 N3 Di (fQ j) (XY j) _ o3 kF x9 Li.out.2 (Nat.min_self _).symm (by omega)).mono ?_
     rintro e wG ⟨rfl,sA,fy⟩;replace hg:=Pq hg fy (fun _ e=>.inl e)
     replace Xf:=Xf.grown fy (fun e=>by have:=Za e;omega)
     replace pg:=pg.grown fy (fun e=>by have:=Za e;omega)
     replace kz:=kz.grown fy (fun e=>by have:=Za e;omega)
     clear fy cf kF o3;have cf:=Xf.cell;have lf:=Xf.lt;have crz:=pg.cell (L.a+L.b+L.b+j);rw [hcz] at crz;have lr:=pg.lt;have mo:gf≠g3:=by omega
     have x11:gr≠g3:=by omega
     go_upto_region 25 with fail
     refine zd (Km g3) [8,9] [0,1,2,3,4,5,6,7,8,9] (by kernel_rfl) (by kernel_rfl) ?_
     refine Se (Re g3) ?_;intro Wc Ja ia;have Ka:=Tf Ja;replace kz:=ja kz Ka;replace sA:=Mc sA Ka zR;replace hg:=Nf hg Ka hg.size;refine oo ?_;refine Bc (Re g3) rfl rfl rfl (fun _=>by go_simp <;> rfl) ((En.out _).mono ?_)
     rintro e wH ⟨rfl,hbH⟩;refine ⟨_,rfl,O6 hbH,?_⟩;replace ia:=(Re g3).trans _ _ _ ia (O6 hbH);refine zPU ?_;replace kz:=ja kz hbH;replace sA:=Mc sA hbH zR;replace hg:=Nf hg hbH hg.size;refine oo ?_;refine Bc (Re g3) rfl rfl rfl (fun _=>by go_simp <;> rfl) ((Ou.out nz g3 w.1.size gz Di Di L.k L.k L.k L.k (Nn L.p y1 (fQ j) (XY j) Di) (Rw (L.a+L.b+L.b+j)) _ sA kz (by omega) zR (by omega) (by omega)).mono ?_)
     rintro e wI ⟨rfl,o3'',hgI⟩;refine ⟨_,rfl,hgI,?_⟩;replace ia:=(Re g3).trans _ _ _ ia (hgI);refine zPU ?_;refine oo ?_;refine Jc ?_;rw [<- HQ1j.out] at o3'';replace hg:=Pq hg hgI (fun _ e=>.inl e)
     clear ia Ka Ja cf lf crz lr hbH hgI sA kz Xf pg;go_wp2_with fail
     go_roundw
     case rel=>exact ⟨j+1,by omega,by go_num,by rw [HY1.out],o3'',hg⟩
     case measure=>simp [intOf];omega
    ·obtain rfl:j=L.b:=by omega
     have q2:¬((L.b:Int)<L.b):=by omega
     replace o1:=SJ o1 (FB (g1:=g3) (g2:=g3) (g3:=g3) hg (.inl rfl)) (by omega) (by omega) (by omega)
     replace o2:=SJ o2 (FB (g1:=g3) (g2:=g3) (g3:=g3) hg (.inl rfl)) (by omega) (by omega) (by omega)
     have hE:=Ff Ia hg;clear hg;go_wp2;exact Tc (v:=.tuple #[ve (vE ⟨g1,0,vD⟩) L.k ca1,ve (vE ⟨g2,0,vD⟩) len ca2,ve (vE ⟨g3,0,vD⟩) Di Di]) (by simp [results,results65,go_sem]) rfl ⟨_,_,_,rfl,o1,o2,o3,hE⟩
def tz (N:Nat) (w:vw) (xs:Nat -> vx) (n:Nat -> Nat) (vals:Nat -> List Nat):Prop :=
 (∀ j,j<3 -> w.ownsRow N 22 1 (xs j) (n j) (Oa ((vals j).take (n j)))) /\
 ∀ j i,j<3 -> i<3 -> j≠i -> ∀ q,(xs j).ownBlock=vE q -> (xs i).ownBlock=vE q -> False
theorem AQ {N:Nat} {w w':vw} {xs:Nat -> vx} {n:Nat -> Nat} {vals:Nat -> List Nat} (h:tz N w xs n vals) (hb:vA w.1.size w w'):tz N w' xs n vals :=
 ⟨fun j hj=>Mc (h.1 j hj) hb zR,h.2⟩
theorem r3_set {N B:Nat} {w w':vw} {xs:Nat -> vx} {n:Nat -> Nat} {vals:Nat -> List Nat} (h:tz N w xs n vals) (hg:w.grownBy w' (vE B)) (hB:B<N):tz N w' xs n vals :=
 ⟨fun j hj=>LM (h.1 j hj) hg hB,h.2⟩
theorem r3_app {N k:Nat} {w w':vw} {xs:Nat -> vx} {n:Nat -> Nat} {vals:Nat -> List Nat} {x:vx} (h:tz N w xs n vals) (hk:k<3) (ho:w'.ownsRow N 22 1 x (n k+1) (Oa ((vals k).take (n k+1)))) (hg:w.grownBy w' (xs k).ownBlock) (hb:x.ownBlock=(xs k).ownBlock \/ x.ownBlock=vE w.1.size):tz N w' (Lu xs k x) (fun j=>if j=k then n k+1 else n j) vals:=by
 refine ⟨fun j hj=>?_,fun j i hj hi Ta q h1 h2=>?_⟩
 ·by_cases e:j=k
  ·subst e;simp only [Lu,if_true];exact ho
  ·simp only [Lu,ya e]
   exact l7 (h.1 j hj) hg fun q h1 h2=>h.2 j k hj hk e q h1 h2
 ·by_cases e:j=k
  ·subst e
   have e2:¬i=j:=fun e2=>Ta e2.symm
   rw [Lu,Na rfl] at h1;rw [Lu,ya e2] at h2;exact TN (h.1 i hi) (h.2 j i hj hi Ta) hb q h1 h2
  ·rw [Lu,ya e] at h1
   by_cases e2:i=k
   ·subst e2
    rw [Lu,Na rfl] at h2;exact TN (h.1 j hj) (h.2 i j hi hj (fun e=>Ta e.symm)) hb q h2 h1
   ·rw [Lu,ya e2] at h2
    exact h.2 j i hj hi Ta q h1 h2
theorem zFw (L:Ma) (pu:Nat) (vars:Int) (A B:Option vy) (n c m d:Nat) (rows:List Ua) (ws:List Nat) (w:vw) (hL:Lb L) (hF:eu L pu vars rows) (hr:RSl 3 Ud w [ve A n c] rows) (hw:RWd w [ve B m d] ws) (Pk:(ws.length:Int)=vars) :
  vB prog 59 #[vf (jb L),Tb L.p (pu:Int) vars (ve A n c),ve B m d] w fun e w'=>∃ v,e=vl v /\ RRx w.1.size w' v (dk L rows ws pu) /\ vA w.1.size w w':=by
 obtain ⟨zj,Xs,hdx,ta,Vf⟩:=Nb hw;subst zj;have gm:=um Xs hdx;have BC:=hF.sec;have Xq:=hL.r;have aA:=hF.nr;obtain ⟨s,hs⟩:=zEX (1+pu);have e1:(1:Int)+pu=(s:Int):=by omega
 have e2:=ye s;have e3:(s:Int)<=ws.length:=by omega
 have e4:s <= ws.length:=by omega
 have e5:(0:Int)<=s:=by omega
 have dv:((ws.length:Int) != vars)=false:=by rw [Pk];simp
 rw [show dk L rows ws pu=Up L.block (yf (ws.drop s) (Rh L.p rows ws 0) (Rh L.p rows ws 1) (Rh L.p rows ws 2)) (yf L.a L.b L.b L.b) by rw [hs];rfl]
 have Tv:L.a=((ws.drop s).length+L.block-1) / L.block:=by
  rw [Im,show ws.length-s=L.secret by omega];exact hL.ae
 have Yj:∀ k,L.b=((Rh L.p rows ws k).length+L.block-1) / L.block:=fun k=>by
  rw [show (Rh L.p rows ws k).length=L.rows by simp [Rh,aA]];exact hL.be
 have BF:RWd w [ve (if d=s then B else Option.map (fun x=>x.add s) B) (ws.length-s) (d-s)] (ws.drop s):=by
  have hc:=Vf.cut (k:=s) e4 Xs;rw [Pp] at hc;refine ⟨_,_,_,rfl,by omega,by omega,?_,fun x hx=>ta x (List.mem_of_mem_drop hx)⟩
  have e:Oa (ws.drop s)=(Oa ws).drop s:=by simp [Oa]
  rw [e];exact hc
 have xI:rows.length=n:=by
  obtain ⟨_,_,_,he,hn,-⟩:=hr;simp at he
  omega
 have uo:=zH (fun w=>kS L pu vars A n c rows w hL hF xI)
 have HVl:=zH (fun A len c l w' (hb:vA w.1.size w w') hl=>zAi L.p A B len c ws.length d l ws w' hl (Bb hb hw) hL.p)
 have HCut:=zH (fun v0 v1 v2 v3 l0 l1 l2 l3 w h hq=>B7 L v0 v1 v2 v3 l0 l1 l2 l3 w hL h hq)
 obtain ⟨A',n',c',he,hnl,Ld,nh,Ra⟩:=hr;simp at he
 obtain ⟨rfl,rfl,rfl⟩:=he;subst xI;have gr:(rows.length:Int) <= 65536:=by omega
 have Yr:=zH (show ∀ k i (h:i<rows.length),(Rh L.p rows ws k).take i++[Ec L.p (Gc rows[i] k) ws]=(Rh L.p rows ws k).take (i+1) from fun k i h=>by
  rw [Su (by simpa [Rh] using h)]
  simp [Rh])
 have Ut:=zH (show ∀ k,(Rh L.p rows ws k).take rows.length=Rh L.p rows ws k from fun k=>WG (by simp [Rh]))
 have HVT:=zH (show ∀ k,∀ x∈Rh L.p rows ws k,x<18446744073709551616 from fun k x hx=>by
  obtain ⟨r,-,rfl⟩:=Ed.1 hx;exact il (G4 (by have:=Pb hL.p;omega) _ _) (Pb hL.p).2)
 obtain ⟨vals,S0⟩:=zEX (Rh L.p rows ws);rw [<- S0] at Yr Ut HVT Yj |-;have HQ:=zH (And.intro Tv Yj);obtain ⟨B0,hB0⟩:=zEX ((if d=s then B else Option.map (fun x=>x.add s) B))
 have HB0:=zH hB0;rw [<- hB0] at BF;obtain ⟨TC,hTC⟩:∃ TC:Array vx,TC=#[vd vn L.p,vd vq pu,vd vq vars,ve A rows.length c]:=⟨_,rfl⟩;have HTC:=zH hTC;have HT0:=zH (show TC[0]?=vE (vd vn L.p) by rw [hTC];rfl)
 have HT3:=zH (show TC[3]?=vE (ve A rows.length c) by rw [hTC];rfl)
 unfold jb Tb at *;obtain ⟨kl,kt,da,-⟩:=Eh w 101 25 #[vd vn L.p,vd vq L.block,vd vq L.queries,vd vq L.k,vd vq L.n,vd vq L.secret,vd vq L.rows,vd vq L.a,vd vq L.b,vd vq L.b,vd vq L.b] #[vd vn L.p,vd vq pu,vd vq vars,ve A rows.length c];clear hs S0 Vf ta hw hB0 hTC Tv Yj BC Xq aA Pk hF hL;go_enter func59,ntmps59
 go_upto_region 1 with fail
 generalize (w.alloc _).alloc _=w1 at kl kt da |-;have cl:=kl.cell;have ct:=kt.cell;go_wp2_with fail
 refine (uo.out _).mono ?_;rintro e w2 ⟨rfl,xa⟩;replace kl:=ja kl xa;replace kt:=ja kt xa;replace da:=pa da xa;clear xa cl ct uo;have ct:=kt.cell;go_upto_region 4 with fail
 rw [<- HB0.out];clear e1 e2 e3 e4 e5 HB0 ct dv;have kv:=Blk.new w2 219 #[ve B0 (ws.length-s) (d-s),ve vD 0 0,ve vD 0 0,ve vD 0 0];have ma:=(Ca w2.1.size w2).alloc zR (.cells #[ve B0 (ws.length-s) (d-s),ve vD 0 0,ve vD 0 0,ve vD 0 0] 219);have n1:=kt.lt;have n2:=kl.lt;replace kl:=ja kl ma;replace kt:=ja kt ma;replace da:=pa da ma;clear ma;have Ti:w2.1.size+1 <= (w2.alloc (.cells #[ve B0 (ws.length-s) (d-s),ve vD 0 0,ve vD 0 0,ve vD 0 0] 219)).1.size:=kv.lt;have jy:w.1.size <= w2.1.size:=by omega
 generalize ws.length-s=n0 at *;generalize d-s=d0 at *;generalize w2.alloc _=w3 at kl kt kv da Ti |-;generalize w2.1.size=gv at kv n1 n2 Ti jy |-;obtain ⟨V0,Xx⟩:∃ V0:vx,V0=ve B0 n0 d0:=⟨_,rfl⟩;have HV0:=zH Xx;rw [<- Xx] at kv BF;clear Xx;rw [<- HTC.out] at kt;have n3:w.1.size≠gv:=by omega
 have n4:w.1.size+1≠gv:=by omega
 obtain ⟨N,hN⟩:=zEX (gv+1);rw [<- hN] at Ti;have nv:gv<N:=by omega
 have nv2:gv≠N:=by omega
 have n5:w.1.size<N:=by omega
 have n6:w.1.size+1<N:=by omega
 have n7:w.1.size <= gv:=by omega
 have n8:w.1.size≠N:=by omega
 clear hN;have ct:=kt.cell 3;rw [HT3.out] at ct;go_wp2_with fail
 clear ct;go_loopw [32] (fun y wr=>∃ (i:Nat) (xs:Nat -> vx),i <= rows.length /\ y=vd vq i /\ Blk wr w.1.size 101 #[vd vn L.p,vd vq L.block,vd vq L.queries,vd vq L.k,vd vq L.n,vd vq L.secret,vd vq L.rows,vd vq L.a,vd vq L.b,vd vq L.b,vd vq L.b] /\ Blk wr (w.1.size+1) 25 TC /\ Blk wr gv 219 #[V0,xs 0,xs 1,xs 2] /\ tz N wr xs (fun _=>i) vals /\ vA w.1.size w wr /\ N <= wr.1.size) (fun y _=>rows.length-(intOf y).toNat)
 case atStart=>exact ⟨0,fun _=>ve vD 0 0,by omega,rfl,kl,kt,kv,⟨fun j _=>⟨rfl, .inl ⟨rfl,rfl⟩⟩,fun j i _ _ _ q h=>by cases h⟩,da,Ti⟩
 case round =>
  clear kl kt kv da Ti;obtain ⟨i,xs,hi,rfl,kl,kt,kv,h3,da,Ti⟩:=hrel;by_cases oC:i<rows.length
  ·have q1:(i:Int)<rows.length:=by omega
   have q2:(0:Int)<=i:=by omega
   obtain ⟨b,q,rfl⟩:=Ra.base (by omega) (by omega)
   obtain ⟨cs,-,hc,u0,u1,u2,rfl,xF,yF,zF⟩:=Ra.get oC;have r0:w.cell? ⟨b,q+i*3,vD⟩=vE u0:=hc 0 (by omega)
   have r1:w.cell? ⟨b,q+i*3+1,vD⟩=vE u1:=hc 1 (by omega)
   have r2:w.cell? ⟨b,q+i*3+2,vD⟩=vE u2:=hc 2 (by omega)
   have lb:=Jf _ _ r0;replace r0:=(da.cell (p:=⟨b,q+i*3,vD⟩) lb).trans r0;replace r1:=(da.cell (p:=⟨b,q+i*3+1,vD⟩) lb).trans r1;replace r2:=(da.cell (p:=⟨b,q+i*3+2,vD⟩) lb).trans r2;obtain ⟨P0,m0,k0,rfl⟩:=RSl.slc xF;obtain ⟨P1,m1,Zj,rfl⟩:=RSl.slc yF;obtain ⟨P2,m2,k2,rfl⟩:=RSl.slc zF;have HVNi:=zH (show ∀ k,(vals k).take i++[Ec L.p (Gc (rows[i]'oC) k) ws]=(vals k).take (i+1) from fun k=>Yr.out k i oC)
   obtain ⟨ri,hri⟩:=zEX (rows[i]'oC);rw [<- hri] at xF yF zF HVNi;clear hri;have HHI:=zH hi;obtain ⟨i1,Mv⟩:=zEX (i+1);have ax:=zH Mv;have Zb:=zH oC;clear hc hi Mv;go_upto_region 7 with fail
   have kr:=Blk.new wr 211 #[ve P0 m0 k0,ve P1 m1 Zj,ve P2 m2 k2];have ma:=(Ca wr.1.size wr).alloc zR (.cells #[ve P0 m0 k0,ve P1 m1 Zj,ve P2 m2 k2] 211);replace h3:=AQ h3 ma;replace kl:=ja kl ma;replace kt:=ja kt ma;replace kv:=ja kv ma;replace da:=pa da ma;replace Ti:=xb Ti ma.size;clear ma r0 r1 r2;generalize wr.alloc _=wo at kr kl kt kv h3 da Ti |-;generalize wr.1.size=gr at kr |-;have cr:=kr.cell;go_wp2_with fail
   clear cr kr;have HU0:=zH (fun w' (hb:vA w.1.size w w')=>uh _ _ _ _ hb xF)
   have HU1:=zH (fun w' (hb:vA w.1.size w w')=>uh _ _ _ _ hb yF)
   have HU2:=zH (fun w' (hb:vA w.1.size w w')=>uh _ _ _ _ hb zF)
   clear xF yF zF;go_loopw [43] (fun y wr=>∃ (k:Nat) (xs:Nat -> vx),k <= 3 /\ y=vd vq k /\ Blk wr gv 219 #[V0,xs 0,xs 1,xs 2] /\ tz N wr xs (fun j=>if j<k then i+1 else i) vals /\ so gv N wo wr /\ N <= wr.1.size) (fun y _=>3-(intOf y).toNat)
   case atStart=>exact ⟨0,xs,by omega,rfl,kv,h3,(Wb _ _).refl _,Ti⟩
   case round =>
    clear kv h3;obtain ⟨k,xs,hk,rfl,kv,h3,jc,On⟩:=hrel;have y1:w.1.size<gv+1:=by omega
    have y2:w.1.size+1<gv+1:=by omega
    have klr:=lY kl jc n5 n3;have ktr:=lY kt jc n6 n4;have Db:vA w.1.size w wr:=da.trans ⟨jc.1,jc.2.1,jc.2.2.1,jc.2.2.2.1,fun b hb=>jc.2.2.2.2 b (by omega) (by omega)⟩
    by_cases ta:k<3
    ·have g1:(k:Int)<3:=by omega
     have g2:(0:Int)<=k:=by omega
     obtain ⟨k1,aq⟩:=zEX (k+1);have ek:(1:Int)+k=(k1:Int):=by omega
     have vH:=ye k1;have HK1:=zH aq;have qk:k1<4:=by omega
     have qk2:(k1:Int)<4:=by omega
     have qk3:(0:Int)<=k1:=by omega
     clear aq;have Aa:wr.ownsRow N 22 1 (xs k) i (Oa ((vals k).take i)):=by have:=h3.1 k ta;simpa using this
     obtain ⟨Ax,cx,Zv,-⟩:=de Aa;have ix:=fun (w:vw)=>oP (w:=w) (x:=ve P0 m0 k0) (y:=ve P1 m1 Zj) (z:=ve P2 m2 k2) ta
     obtain ⟨sel,Qf⟩:=zEX ((if k=0 then ve P0 m0 k0 else if k=1 then ve P1 m1 Zj else ve P2 m2 k2))
     have yl:RLin wr [sel] (Gc ri k):=by
      rw [Qf];unfold Gc;have hfb:vA wo.1.size wo wr \/ True:=.inr trivial;rcases (show k=0 \/ k=1 \/ k=2 by omega) with h | h | h <;> subst h
      ·exact HU0.out _ Db
      ·exact HU1.out _ Db
      ·exact HU2.out _ Db
     rw [<- Qf] at ix;obtain ⟨As,ns,je,rfl⟩:=RSl.slc yl;have qX:=zH (HVNi.out k);have cv:wr.cell? ⟨gv,k1,vD⟩=vE (ve Ax i cx):=by
      rw [kv.cell,HK1.out,bY ta,Zv]
     obtain ⟨z,hz⟩:=zEX (Ec L.p (Gc ri k) ws);have Hn:=zH (fun w' (hb:vA w.1.size w w') (xl:RLin w' [ve As ns je] (Gc ri k))=>by have:=HVl.out As ns je (Gc ri k) w' hb xl;rw [<- hz] at this;exact this)
     rw [<- hz] at qX;have Ll:=zH Zv;have cl:=klr.cell;have ll:=klr.lt;have lv:=kv.lt;clear Qf hz Zv;generalize Gc ri k=lside at *;go_upto_region 10 with fail
     refine NA (so N N) [10,11,12,14] [14] [0,1,2,3,4,5,6,7,8,9,10,11,12,13,14] (by kernel_rfl) (by kernel_rfl) ?_
     refine QA (Wb N N) ?_;intro Wc Ja ia;have Ka:=Tf Ja;have dc:N <= Wc.1.size:=by have:=Ka.size;omega
     replace kv:=ja kv Ka;replace Aa:=Mc Aa Ka zR;replace Db:=pa Db Ka;replace h3:=AQ h3 Ka;replace yl:=uh _ _ _ _ Ka yl;replace jc:=(Wb gv N).trans _ _ _ jc (Gk Ka On);clear Ja Ka;refine Fl ?_;refine Jt (Wb N N) rfl rfl rfl (fun _=>by go_simp <;> rfl) ((Hn.out _ Db yl).mono ?_)
     rintro e w6 ⟨rfl,sc⟩;refine ⟨_,rfl,fun _=>Gk sc dc,?_⟩
     replace ia:=(Wb N N).trans _ _ _ ia (Gk sc dc);refine zPU ?_;have QH:N <= w6.1.size:=by have:=sc.size;omega
     replace kv:=ja kv sc;replace Aa:=Mc Aa sc zR;replace Db:=pa Db sc;replace h3:=AQ h3 sc;replace jc:=(Wb gv N).trans _ _ _ jc (Gk sc dc);clear sc yl;refine Fl ?_;refine Ij (Wb N N) rfl rfl rfl ?_;go_simp;have ma:=(Ca w6.1.size w6).alloc zR (.cells #[vd vn z] 22);have Wi:=Ew w6 (vd vn z) 22;refine ⟨fun _=>Gk ma QH,?_⟩
     replace kv:=ja kv ma;replace Aa:=Mc Aa ma zR;replace Db:=pa Db ma;replace h3:=AQ h3 ma;replace jc:=(Wb gv N).trans _ _ _ jc (Gk ma QH);have Vh:=xb QH ma.size
     refine zPU ?_
     generalize w6.alloc _=w7 at kv Aa h3 jc Wi Db Vh |-;generalize w6.1.size=g6 at Wi |-;clear ma QH ia cl cv;have ia:=(Wb N N).refl w7;refine Fl ?_;refine Ij (Wb N N) rfl rfl rfl ?_;refine Mw _ _ rfl Ls rfl (by rw [Ll.out] at Aa;exact Aa) rfl Wi (oq [z]) (by omega) Vh ?_
     intro v' wn Rb Wa Dc;have Yc:∀ q,(ve Ax i cx).ownBlock=vE q -> N <= q:=fun q e=>by rw [<- Ll.out] at e;exact (Aa.lt q e).1
     refine ⟨fun _=>Px Wa Vh Yc,?_⟩
     replace kv:=kv.grown Wa (fun e=>by first | (have:=Yc _ e;omega) | (have:=Yc _ e.symm;omega))
     replace jc:=(Wb gv N).trans _ _ _ jc (Px Wa Vh Yc);replace Rb:wn.ownsRow N 22 1 v' (i+1) (Oa ((vals k).take (i+1))):=MF (b:=[z]) Rb qX.out;have h4:=r3_app (x:=v') h3 ta (by simpa using Rb) (by rw [Ll.out];exact Wa) (by rw [Ll.out];exact Dc)
     obtain ⟨Aw,cw,rfl,-⟩:=de Rb;have Ih:=xb Vh Wa.size;clear Aa Wa Dc Yc Vh Wi ia h3 Rb;have ia:=(Wb N N).refl wn;have cv:wn.cell? ⟨gv,k1,vD⟩=vE (ve Ax i cx):=by
      rw [kv.cell,HK1.out,bY ta,Ll.out]
     have fv2:=kv.frozen
     refine zPU ?_
     refine Fl ?_;refine Ij (Wb N N) rfl rfl rfl ?_;go_simp;refine ⟨fun h=>Bool.noConfusion h,?_⟩
     have Ib:=Hj (w:=wn) gv k1 (ve Aw (i+1) cw);replace kv:=kv.set_ k1 (ve Aw (i+1) cw);rw [HK1.out,zBs ta,<- HK1.out] at kv;have h4:=r3_set h4 Ib nv;replace jc:=(Wb gv N).trans _ _ _ jc (JB Ib Ih);replace Ih:=xb Ih Ib.size;clear Ib cv fv2 ia;generalize wn.setCell _ _=wz at kv h4 jc Ih |-;have ia:=(Wb N N).refl wz;refine Fl ?_;refine OA ?_;have h5:tz N wz (Lu xs k (ve Aw (i+1) cw)) (fun j=>if j<k1 then i+1 else i) vals:=by
      have e:(fun j=>if j=k then (fun j=>if j<k then i+1 else i) k+1 else (fun j=>if j<k then i+1 else i) j)=(fun j=>if j<k1 then i+1 else i):=by
       funext j
       rw [HK1.out];by_cases e1:j=k
       ·subst e1;simp
       ·by_cases e2:j<k
        ·simp [e1,e2,show j<k+1 by omega]
        ·simp [e1,e2,show ¬j<k+1 by omega]
      rw [e] at h4;exact h4
     clear h4;have Bm:=zH (show k1 <= 3 by omega)
     go_wp2
     go_roundw
     case rel=>exact ⟨k1,Lu xs k (ve Aw (i+1) cw),Bm.out,by rw [HK1.out];go_num,kv,h5,jc,Ih⟩
     case measure=>simp [intOf];omega
    ·obtain rfl:k=3:=by omega
     have Qx:tz N wr xs (fun _=>i1) vals:=by
      refine ⟨fun j hj=>?_,h3.2⟩
      have:=h3.1 j hj;simp only [Na hj] at this;rw [ax.out];exact this
     clear h3;have HEE:=zH (show i1 <= rows.length by have:=Zb.out;have:=ax.out;omega)
     go_wp2_with fail
     go_roundw
     case rel=>exact ⟨i1,xs,HEE.out,by rw [ax.out];go_num,klr,ktr,kv,Qx,Db,On⟩
     case measure=>have:=Zb.out;simp [intOf];omega
  ·obtain rfl:i=rows.length:=by omega
   have q2:¬((rows.length:Int)<rows.length):=by omega
   have h0:=h3.1 0 (by omega)
   have h1:=h3.1 1 (by omega)
   have h2:=h3.1 2 (by omega)
   rw [Ut.out] at h0 h1 h2;obtain ⟨A1,c1,e1,h0⟩:=dW h0 (HVT.out 0);obtain ⟨A2,c2,e2,h1⟩:=dW h1 (HVT.out 1);obtain ⟨A3,c3,e3,h2⟩:=dW h2 (HVT.out 2);have hv:=Bb da BF;have HH:=zH (fun (w':vw) (hb:vA wr.1.size wr w')=>HCut.out V0 (xs 0) (xs 1) (xs 2) (ws.drop s) (vals 0) (vals 1) (vals 2) w' (fun i hi=>by
    rw [e1,e2,e3];rcases (show i=0 \/ i=1 \/ i=2 \/ i=3 by omega) with rfl | rfl | rfl | rfl
    ·exact Bb hb hv
    ·exact Bb hb h0
    ·exact Bb hb h1
    ·exact Bb hb h2) (fun i hi=>by
    rcases (show i=0 \/ i=1 \/ i=2 \/ i=3 by omega) with rfl | rfl | rfl | rfl
    ·exact HQ.out.1
    ·exact HQ.out.2 0
    ·exact HQ.out.2 1
    ·exact HQ.out.2 2))
   rw [e1,e2,e3,HV0.out] at kv HH;have cl:=kl.cell;have cv:=kv.cell;have ll:=kl.lt;have lv:=kv.lt;clear h3 h0 h1 h2 hv e1 e2 e3;go_wp2_with fail
   refine (HH.out _ (Ca _ _)).mono ?_;rintro e w9 ⟨v,rfl,hov,xa⟩;go_wp2;go_ret
   exact ⟨_,rfl,hov.mono da.size,pa da xa⟩
end Go.Proofs.YteoghgbnielkpaaGreat
