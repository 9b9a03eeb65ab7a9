/- A part of the proof. No condition. -/
import Derived.Test.YteoghgbnielkpaaGreatTB13
import Derived.Test.YteoghgbnielkpaaGreatTB14

set_option maxRecDepth 100000
set_option maxHeartbeats 8000000
set_option linter.unusedVariables false
set_option linter.unusedSimpArgs false
namespace Go.Proofs.YteoghgbnielkpaaGreat
open Go.RowKit Go.Maps
open Tryz
open Go renaming World->vw, Value->vx, Addr->vy, TypeId->vz, Calls->vB
open Go.Value renaming int->vd, slice->ve, agg->vf
open Go.IntKind renaming u64->vn, i64->vq
open Go.Ending renaming returned->vl
open Go.RowKit renaming Below->vA
open Go.World renaming setCell->vF
open Go.Act renaming put->vG
open Option renaming none->vD, some->vE
structure PvIn where
 L:Na
 dd:Nat
 pub:Nat
 dg:Nat
 rows:List Ua
 ws:List Nat
 m:List (List Nat)
 crs:List (List Nat)
 l1:List Nat
 l2:List Nat
 l3:List Nat
 l4:List Nat
def PvIn.cols (x:PvIn):List (List Nat):=(List.range x.L.n).map fun i=>(List.range (x.m.length+3)).map (Ct x.L (Wj x.L x.m x.crs x.l1 x.l2 x.l3) i)
def PvIn.pu (x:PvIn):List Nat:=(x.ws.drop 1).take x.pub
def PvIn.t1 (x:PvIn) (O:Da):Tr:=Zd O x.L x.dg x.pu
def PvIn.o2 (x:PvIn) (O:Da):Da:=xz x.dd (dc (x.t1 O).O 16 (Eg x.cols x.l4)) (Oe (x.t1 O).O 16 (Eg x.cols x.l4))
def PvIn.tree (x:PvIn) (O:Da):List (List Nat):=Tg x.dd (dc (x.t1 O).O 16 (Eg x.cols x.l4)) (Oe (x.t1 O).O 16 (Eg x.cols x.l4))
def PvIn.root (x:PvIn) (O:Da):Nat:=Tp (x.tree O)
def PvIn.ch (x:PvIn) (O:Da):ChR:=Bl ⟨x.o2 O,(x.t1 O).st,0⟩ x.L.p (x.root O)
def PvIn.t2 (x:PvIn) (O:Da):Tr:=xe ⟨x.o2 O,(x.t1 O).st,0⟩ (x.root O)
def PvIn.code (x:PvIn) (al:Nat):List Nat:=(List.range x.L.k).map (WA x.L.p x.L.k al (fun k=>x.l1.getD k 0) (ay x.L x.m x.crs) x.m.length)
def PvIn.lin (x:PvIn) (rh:Nat):List Nat:=(List.range (x.L.k+x.L.block-1)).map (XA x.L.p (x.L.k+x.L.block-1) (fun k=>(Fg x.L x.l2).getD k 0) (YB x.L (Uv x.L x.pub rh x.rows) x.m x.crs) x.m.length)
def PvIn.quad (x:PvIn) (be:Nat):List Nat:=(List.range (2*x.L.k-1)).map (oz x.L.p x.L.k (2*x.L.k-1) be (Hg x.L.p x.L.block x.l3 x.l3.length) (dy x.L x.m x.crs) (aF x.L x.m x.crs) x.L.b)
def PvIn.all (x:PvIn) (O:Da):List Nat:=x.code (x.ch O).al++x.lin (x.ch O).rh++x.quad (x.ch O).be
def PvIn.pos (x:PvIn) (O:Da):List Nat:=Rn (x.t2 O) (x.all O) x.L.n x.L.queries
def PvIn.oF (x:PvIn) (O:Da):Da:=Xi (x.t2 O) (x.all O) x.L.queries
def PvIn.pr (x:PvIn) (O:Da):ie:=⟨x.root O,x.code (x.ch O).al,x.lin (x.ch O).rh,x.quad (x.ch O).be,(x.pos O).map fun i=>x.cols.getD i [],(x.pos O).map fun i=>x.l4.getD i 0,(x.pos O).map fun i=>Vi (x.tree O) i⟩
def Rc (O Z:Da):Prop:=∀ lab el a,Bh O lab el a -> Bh Z lab el a
theorem fh {O Y Z:Da} (h:Rc O Y) (k:Rc Y Z):Rc O Z:=fun _ _ _ a=>k _ _ _ (h _ _ _ a)
theorem rz (O:Da) (lab:Nat) (el:List Nat):Rc O (ld O lab el):=fun _ _ _ h=>mZ h lab el
theorem JL (O:Da) (lab:Nat) (qs:List (List Nat)):Rc O (dc O lab qs):=fun _ _ _ h=>oT h lab qs
theorem zBc:∀ (d:Nat) (O:Da) (l:List Nat),Rc O (xz d O l)
 | 0,_,_=>fun _ _ _ h=>h
 | d+1,O,l=>fh (JL O 17 (Vd l)) (zBc d _ _)
theorem ZJ {O Z:Da} {lab:Nat} {el:List Nat} (h:Rc (ld O lab el) Z):De Z lab el=De O lab el /\ ld Z lab el=Z:=by
 by_cases he:Kc el=true
 ·have:=lZ (h _ _ _ (EU O lab he))
  exact ⟨this.2.1,this.1⟩
 ·constructor
  ·unfold De
   rw [ya he,ya he]
  ·unfold ld
   rw [ya he]
theorem VW {lab:Nat}:∀ (qs:List (List Nat)) {O Z:Da},Rc (dc O lab qs) Z -> dc Z lab qs=Z
 | [],_,_,_=>rfl
 | q :: qs,O,Z,h=>by
  have h1:Rc (ld O lab q) Z:=fh (JL (ld O lab q) lab qs) h;show dc (ld Z lab q) lab qs=Z
  rw [(ZJ h1).2];exact VW qs (O:=ld O lab q) h
theorem ZN {O Z:Da} {st ct tag:Nat} {l:List Nat} (h:Rc (Ki ⟨O,st,ct⟩ tag l).O Z):Ki ⟨Z,st,ct⟩ tag l=⟨Z,(Ki ⟨O,st,ct⟩ tag l).st,0⟩:=by
 have:=ZJ h;simp only [Ki] at *;rw [this.1,this.2]
theorem aO {O Z:Da} {st ct:Nat} (h:Rc (Jc ⟨O,st,ct⟩).O Z):Jc ⟨Z,st,ct⟩=⟨Z,st,ct+1⟩:=by
 have:=ZJ h;simp only [Jc] at *;rw [this.2]
theorem zI9 (O:Da) (st root:Nat):Rc O (xe ⟨O,st,0⟩ root).O:=by
 have h:∀ s:Tr,Rc s.O (Jc s).O:=fun s=>rz s.O 19 [s.st,s.ct]
 have h0:Rc O (Ki ⟨O,st,0⟩ 2 [root]).O:=rz O 18 [st,2,root];unfold xe;exact fh h0 (fh (h _) (fh (h _) (h _)))
theorem zJa (s:Tr) (all:List Nat) (q:Nat):Rc s.O (Xi s all q):=by
 have h0:Rc s.O (Ki s 3 all).O:=rz s.O 18 (s.st :: 3 :: all);unfold Xi;exact fh h0 (JL _ _ _)
theorem zAH {O Z:Da} {st root:Nat} (h:Rc (xe ⟨O,st,0⟩ root).O Z):xe ⟨Z,st,0⟩ root=⟨Z,(xe ⟨O,st,0⟩ root).st,3⟩:=by
 obtain ⟨a,ha⟩:=zEX (Ki ⟨O,st,0⟩ 2 [root]);have hc:a.ct=0:=by rw [ha];rfl
 have e:xe ⟨O,st,0⟩ root=Jc (Jc (Jc a)):=by rw [ha];rfl
 rw [e] at h |-;have h2:Rc (Jc (Jc a)).O Z:=fh (rz _ _ _) h;have h1:Rc (Jc a).O Z:=fh (rz _ _ _) h2;have h0:Rc a.O Z:=fh (rz _ _ _) h1;show Jc (Jc (Jc (Ki ⟨Z,st,0⟩ 2 [root])))=_
 rw [ZN (by rw [<- ha];exact h0),<- ha]
 have r1:Jc ⟨Z,a.st,0⟩=⟨Z,a.st,1⟩:=aO (O:=a.O) (by rw [<- hc];exact h1)
 have e1:(⟨(Jc a).O,a.st,1⟩:Tr)=Jc a:=by simp [Jc,hc]
 have r2:Jc ⟨Z,a.st,1⟩=⟨Z,a.st,2⟩:=aO (O:=(Jc a).O) (by rw [e1];exact h2)
 have e2:(⟨(Jc (Jc a)).O,a.st,2⟩:Tr)=Jc (Jc a):=by simp [Jc,hc]
 have r3:Jc ⟨Z,a.st,2⟩=⟨Z,a.st,3⟩:=aO (O:=(Jc (Jc a)).O) (by rw [e2];exact h)
 rw [r1,r2,r3]
 rfl
theorem zIl {O Z:Da} {st ct q:Nat} {all:List Nat} (h:Rc (Xi ⟨O,st,ct⟩ all q) Z):Xi ⟨Z,st,ct⟩ all q=Z:=by
 have ha:Rc (Ki ⟨O,st,ct⟩ 3 all).O Z:=fh (JL _ _ _) h;unfold Xi;rw [ZN ha];exact VW _ h
theorem QX:∀ (d:Nat) (O:Da) (l:List Nat),yf O -> (∀ x∈l,x<Bb) -> ∀ r∈Tg d O l,∀ x∈r,x<Bb
 | 0,_,l,_,hl=>fun r hr x hx=>by
  have e:r=l:=by simpa [Tg] using hr
  subst e;exact hl x hx
 | d+1,O,l,hO,hl=>fun r hr x hx=>by
  rcases Ah.1 (show r∈l :: Tg d (dc O 17 (Vd l)) (Oe O 17 (Vd l)) from hr) with e | e
  ·subst e
   exact hl x hx
  ·exact QX d _ _ (xK hO 17 _) (yK hO 17 _) r e x hx
theorem NK {l:List Nat} (hl:∀ x∈l,x<Bb) (i:Nat):l.getD i 0<Bb:=by
 by_cases h:i<l.length
 ·exact hl _ (iw 0 h)
 ·rw [Fb,oo zO]
  decide
theorem eX {ls:List (List Nat)} (h:∀ r∈ls,∀ x∈r,x<Bb) (k j:Nat):(ls.getD k []).getD j 0<Bb:=by
 by_cases hk:k<ls.length
 ·exact NK (h _ (iw [] hk)) j
 ·have e:ls.getD k []=[]:=by rw [Fb,oo zO];rfl
  rw [e];show 0<Bb
  decide
theorem vW {ls:List (List Nat)} (h:∀ r∈ls,∀ x∈r,x<Bb) (i:Nat):∀ x∈Vi ls i,x<Bb:=by
 rw [PN];intro x hx;obtain ⟨k,_,rfl⟩:=Od.1 hx;exact eX h _ _
theorem zAK {ls:List (List Nat)} (h:∀ r∈ls,∀ x∈r,x<Bb):Tp ls<Bb:=by
 unfold Tp;cases ls with
 | nil=>decide
 | cons a r =>
  refine NK (h _ ?_) 0;rw [List.getLastD_cons];cases r with
  | nil=>exact .head _
  | cons b q=>rw [List.getLastD_eq_getLast?,List.getLast?_eq_some_getLast (List.cons_ne_nil b q)];exact .tail _ (List.getLast_mem _)
theorem T8:∀ (d:Nat) {O:Da} {k:Nat} (l:List Nat),l.length=2^d -> oc O k -> oc (xz d O l) (k+2^d)
 | 0,_,_,_,_,h=>Le h zO
 | d+1,O,k,l,hl,h=>by
  have e:l.length / 2=2^d:=by rw [hl,Sf];omega
  have h1:=MD (lab:=17) (Vd l) h;rw [lL,e] at h1;refine Le (T8 d (Oe O 17 (Vd l)) (by rw [Wy,lL,e]) h1) ?_
  rw [Sf];omega
theorem zGj {p:Nat} (h:Jb p=true):p <= Bb:=by
 rcases cu h with rfl | rfl | rfl | rfl | rfl | rfl | rfl <;> decide
theorem WW {O Z:Da} {L:Na} {dg:Nat} {l:List Nat} (h:Rc (Zd O L dg l).O Z):Zd Z L dg l=⟨Z,(Zd O L dg l).st,0⟩:=ZN h
theorem zAX (O:Da) (st root:Nat):(xe ⟨O,st,0⟩ root).ct=3:=rfl
theorem zAG {Z:Da} {s:Tr} {all:List Nat} {q:Nat} (hc:s.ct=3) (h:Rc (Xi s all q) Z):Xi ⟨Z,s.st,3⟩ all q=Z:=by
 cases s
 simp only at hc;subst hc;exact zIl h
theorem zCp {O O2 Z:Da} {L:Na} {dg root q:Nat} {l all:List Nat} (h1:Rc (Zd O L dg l).O Z) (h2:Rc (xe ⟨O2,(Zd O L dg l).st,0⟩ root).O Z) (h3:Rc (Xi (xe ⟨O2,(Zd O L dg l).st,0⟩ root) all q) Z) :
  Xi (xe (Zd Z L dg l) root) all q=Z:=by
 rw [WW h1,zAH h2];exact zAG (zAX _ _ _) h3
section
variable (x:PvIn) (O:Da)
theorem PvIn.cols_len:x.cols.length=x.L.n:=by simp [PvIn.cols]
theorem PvIn.cols_row (l:List Nat) (h:l∈x.cols):l.length=x.m.length+3:=by
 obtain ⟨i,-,rfl⟩:=Od.1 h;simp
theorem PvIn.cols_els (hp:Jb x.L.p=true):∀ l∈x.cols,Kc l=true:=fun l h=>by
 obtain ⟨i,-,rfl⟩:=Od.1 h;unfold Kc;rw [fe];intro y hy;obtain ⟨j,-,rfl⟩:=Od.1 hy;have h1:=xP (p:=x.L.p) (zQ (Rb hp)) x.L.n x.L.n.log2 ((Wj x.L x.m x.crs x.l1 x.l2 x.l3).getD j []) (Mb x.L.p).1 i;have h2:=zGj hp;exact xb (show Ct _ _ _ _<Bb from pd h1 h2)
theorem PvIn.sub1:Rc (x.t1 O).O (x.o2 O):=fh (JL _ _ _) (zBc _ _ _)
theorem PvIn.sub2:Rc (x.o2 O) (x.t2 O).O:=zI9 _ _ _
theorem PvIn.sub3:Rc (x.t2 O).O (x.oF O):=zJa _ _ _
theorem PvIn.again:Xi (xe (Zd (x.oF O) x.L x.dg x.pu) (x.root O)) (x.all O) x.L.queries=x.oF O :=
 zCp (O:=O) (O2:=x.o2 O) (fh (x.sub1 O) (fh (x.sub2 O) (x.sub3 O))) (x.sub3 O) fun _ _ _ h=>h
theorem PvIn.code_lt (hp:0<x.L.p) (h:∀ y∈x.l1,y<x.L.p) (al:Nat):∀ y∈x.code al,y<x.L.p:=fun y hy=>by
 obtain ⟨k,-,rfl⟩:=Od.1 hy;exact nR hp (fun k=>fw hp h k) _ _
theorem PvIn.lin_lt (hp:0<x.L.p) (h:∀ y∈x.l2,y<x.L.p) (rh:Nat):∀ y∈x.lin rh,y<x.L.p:=fun y hy=>by
 obtain ⟨k,-,rfl⟩:=Od.1 hy;refine qR hp (fun k=>?_) _ _
 cases k with
 | zero=>exact uN hp _ _
 | succ k=>exact fw hp h k
theorem PvIn.quad_lt (hp:0<x.L.p) (be:Nat):∀ y∈x.quad be,y<x.L.p:=fun y hy=>by
 obtain ⟨k,-,rfl⟩:=Od.1 hy;exact RN hp (fun k=>qE hp _ _ _) _ _
theorem PvIn.tree_lt (h:yf (x.t1 O).O):∀ r∈x.tree O,∀ y∈r,y<Bb:=QX _ _ _ (xK h 16 _) (yK h 16 _)
theorem PvIn.o2_le {k:Nat} (hn:x.L.n=2^x.dd) (h:oc (x.t1 O).O k):oc (x.o2 O) (k+2*x.L.n):=by
 have h1:=MD (lab:=16) (Eg x.cols x.l4) h;rw [kL,x.cols_len] at h1;have h2:=T8 x.dd (Oe (x.t1 O).O 16 (Eg x.cols x.l4)) (by rw [Wy,kL,x.cols_len,hn]) h1
 rw [<- hn] at h2;exact Le h2 zO
end
theorem zHR {w w7 w16 wr wf:vw} {F F4:Nat -> Prop} {gP N R:Nat} (hb:vA w.1.size w w7) (hF:∀ j,F j -> j<w.1.size) (m:Moved F F4 w7 w16) (hN5:N <= w16.1.size) (EI:w16.1.size <= N) (hgP:w7.1.size <= gP) (hgN:gP<N) (hR:w.1.size <= R) (hR7:R<w7.1.size)
  (sc:So gP N w16 wr) (uj:N <= wr.1.size) (uw:∀ j,j≠R -> wf.1[j]?=wr.1[j]?) (hfs:wf.1.size=wr.1.size) (ho:wf.os=wr.os /\ wf.tape=wr.tape /\ wf.output=wr.output) (h16:∀ j,F4 j -> j<w16.1.size) (nP4:¬F4 gP) :
  (∀ j,F4 j -> wf.1[j]?=w16.1[j]?) /\ w16.1.size <= wf.1.size /\ Moved F F4 w wf /\ ∀ u,Ij (fun b=>w.1.size <= b /\ b<wf.1.size /\ ¬F4 b) wf u ->
   (∀ j,w.1.size <= j -> j<N -> j≠gP -> j≠R -> ¬F4 j -> u.1[j]?=w16.1[j]?) /\ (∀ j,N <= j -> j<wr.1.size -> u.1[j]?=wr.1[j]?) /\ (∀ j,R<j -> j<w7.1.size -> u.1[j]?=w7.1[j]?) /\ w7.1.size <= u.1.size:=by
 have s1:=hb.size;have s2:=m.size;have hA:∀ j,j<N -> j≠gP -> j≠R -> wf.1[j]?=w16.1[j]?:=fun j h1 h2 h3=>(uw j h3).trans (sc.2.2.2.2 j h1 h2)
 have hB7:∀ j,j<w7.1.size -> ¬F j -> j≠R -> wf.1[j]?=w7.1[j]?:=fun j h1 h2 h3=>(hA j zO zO h3).trans (m.block j h1 h2)
 refine ⟨fun j hj=>hA j (zQ (h16 j hj)) (fun e=>nP4 (e ▸ hj)) (fun e=>?_),zO,⟨ho.1.trans (sc.1.trans (m.os.trans hb.os)),ho.2.1.trans (sc.2.1.trans (m.tape.trans hb.tape)),ho.2.2.trans (sc.2.2.1.trans (m.output.trans hb.output)),zO,fun j h1 h2=>(hB7 j zO h2 zO).trans (hb.block j h1),fun j hj=>(m.foot j hj).imp id fun h=>zO⟩,fun u a=>⟨fun j h1 h2 h3 h4 h5=>(a.block j ⟨h1,zO,h5⟩ zO).trans (hA j h2 h3 h4),fun j h1 h2=>(a.block j ⟨zO,zO,fun e=>by have:=h16 j e;omega⟩ zO).trans (uw j zO),fun j h1 h2=>?_,by have:=a.size;omega⟩⟩
 ·rcases m.foot j hj with h | h
  ·have:=hF j h;omega
  ·omega
 ·refine (a.block j ⟨zO,zO,fun e=>?_⟩ zO).trans (hB7 j h2 (fun e=>by have:=hF j e;omega) zO)
  rcases m.foot j e with h | h
  ·have:=hF j h;omega
  ·omega
theorem zFL {i Q:Nat} (h:i<Q):Q-(intOf (vd vq ((i+1:Nat):Int))).toNat<Q-(intOf (vd vq i)).toNat:=by
 simp only [intOf,Rk];omega
theorem EL (g:Nat):∀ (xs:List vx) (k:Nat) (w:vw),(Cl w g xs k).1.size=w.1.size /\ (Cl w g xs k).os=w.os /\ (Cl w g xs k).tape=w.tape /\ (Cl w g xs k).output=w.output
 | [],_,_=>⟨rfl,rfl,rfl,rfl⟩
 | x :: xs,k,w=>by
  have h:=EL g xs (k+1) (w.setCell ⟨g,k,vD⟩ x);exact ⟨h.1.trans (by simp [vF]),h.2.1.trans rfl,h.2.2.1.trans rfl,h.2.2.2.trans rfl⟩
theorem store7 {w:vw} {g:Nat} {t:vz} {y0 y1 y2 y3 y4 y5 y6:vx} (k:Blk w g t #[y0,y1,y2,y3,y4,y5,y6]) (x0 x1 x2 x3 x4 x5 x6:vx):∃ wf,(((((((w.setCell ⟨g,0,vD⟩ x0).setCell ⟨g,1,vD⟩ x1).setCell ⟨g,2,vD⟩ x2).setCell ⟨g,3,vD⟩ x3).setCell ⟨g,4,vD⟩ x4).setCell ⟨g,5,vD⟩ x5).setCell ⟨g,6,vD⟩ x6)=wf /\ Blk wf g t #[x0,x1,x2,x3,x4,x5,x6] /\ (∀ j,j≠g -> wf.1[j]?=w.1[j]?) /\ wf.1.size=w.1.size /\ wf.os=w.os /\ wf.tape=w.tape /\ wf.output=w.output :=
 ⟨_,rfl,ZD [x0,x1,x2,x3,x4,x5,x6] k rfl,fun _ hj=>iB (fun e=>hj e) [x0,x1,x2,x3,x4,x5,x6] 0 w,EL g [x0,x1,x2,x3,x4,x5,x6] 0 w⟩
theorem zHS {w7 w16 wr u:vw} {F4:Nat -> Prop} {gP N R B0 B6 B13 B15 i k1 k2 k3:Nat} {x:PvIn} {O:Da} {cd ln qd pos:List Nat} {tr:List (List Nat)} {P1 P2 P3 Ac As Ap:Option vy} {p1 p2 p3 ca cs cp:Nat} {xs:Nat -> vx} {nn:Nat -> Nat} {vs:Nat -> List vx}
  (hU:∀ j,B0 <= j -> j<N -> j≠gP -> j≠R -> ¬F4 j -> u.1[j]?=w16.1[j]?) (hV:∀ j,N <= j -> j<wr.1.size -> u.1[j]?=wr.1[j]?) (hW:∀ j,R<j -> j<w7.1.size -> u.1[j]?=w7.1[j]?) (hus:w7.1.size <= u.1.size)
  (b0:B0 <= B13) (b1:R<B13) (b2:gP<B13) (b3:B15 <= N) (b4:R<B6) (b5:B6 <= w7.1.size) (b6:w7.1.size <= N) (n1:∀ b,B13 <= b -> b<B15 -> ¬F4 b)
  (o1:w16.ownsRow B13 22 1 (ve P1 k1 p1) k1 (Oa cd)) (o2:w16.ownsRow B13 22 1 (ve P2 k2 p2) k2 (Oa ln)) (o3:w16.ownsRow B13 22 1 (ve P3 k3 p3) k3 (Oa qd))
  (l1:(∀ b,(ve P1 k1 p1).ownBlock=vE b -> B13 <= b /\ b<B15) /\ (∀ b,(ve P2 k2 p2).ownBlock=vE b -> B13 <= b /\ b<B15) /\ ∀ b,(ve P3 k3 p3).ownBlock=vE b -> B13 <= b /\ b<B15)
  (c1:∀ y∈cd,y<18446744073709551616) (c2:∀ y∈ln,y<18446744073709551616) (c3:∀ y∈qd,y<18446744073709551616) (qw:cd=x.code (x.ch O).al) (bh:ln=x.lin (x.ch O).rh) (hqd:qd=x.quad (x.ch O).be)
  (yd:OwnF N wr (i+3) tyF xs nn vs) (Pc:InvP pos x.cols x.l4 (fun z=>Vi tr z) x.dd B6 w7 i xs nn vs) (af:pos.length=i) (ql:pos=x.pos O) (KA:tr=x.tree O) (e0:xs 0=ve Ac i ca) (e1:xs 1=ve As i cs) (e2:xs 2=ve Ap i cp)
  (iD:x.root O<Bb) (hsa:Kc x.l4=true) (Py:∀ r∈x.tree O,∀ y∈r,y<Bb) :
  Ji u (x.pr O) ⟨P1,k1,p1,P2,k2,p2,P3,k3,p3,Ac,i,ca,As,i,cs,Ap,i,cp⟩:=by
 have bV:OwnF N u (i+3) tyF xs nn vs:=⟨fun j hj=>ji (yd.own j hj) fun b hb=>hV b ((yd.own j hj).lt b hb).1 ((yd.own j hj).lt b hb).2,yd.apart⟩
 have htk:pos.take i=pos:=VE zO;refine ⟨Gr iD,?_,?_,?_,?_,?_,?_⟩
 ·show RWd u [ve P1 k1 p1] (x.code (x.ch O).al)
  rw [<- qw];exact Hq (ji o1 fun b hb=>by have h1:=l1.1 b hb;exact hU b zO zO zO zO (n1 b h1.1 h1.2)) c1
 ·show RWd u [ve P2 k2 p2] (x.lin (x.ch O).rh)
  rw [<- bh];exact Hq (ji o2 fun b hb=>by have h1:=l1.2.1 b hb;exact hU b zO zO zO zO (n1 b h1.1 h1.2)) c2
 ·show RWd u [ve P3 k3 p3] (x.quad (x.ch O).be)
  rw [<- hqd];exact Hq (ji o3 fun b hb=>by have h1:=l1.2.2 b hb;exact hU b zO zO zO zO (n1 b h1.1 h1.2)) c3
 ·show RSl 1 RWd u [ve Ac i ca] ((x.pos O).map fun k=>x.cols.getD k [])
  rw [<- ql,<- e0];have hc:=Pc.c;rw [htk] at hc;exact (zGl hc hus (fun b h1 h2=>hW b zO h2) (bV.own 0 zO) b6 b5).here
 ·show RWd u [ve As i cs] ((x.pos O).map fun k=>x.l4.getD k 0)
  rw [<- ql];have ho:=bV.own 1 zO;have hs:=Pc.s;rw [htk] at hs;rw [e1,Pc.n1,hs] at ho;exact Hq ho fun y hy=>by
   obtain ⟨k,-,rfl⟩:=Od.1 hy;exact Gr (NK (fun y hy=>of_decide_eq_true (fe.1 hsa y hy)) k)
 ·show RSl 1 RWd u [ve Ap i cp] ((x.pos O).map fun k=>Vi (x.tree O) k)
  rw [<- ql,<- KA,<- e2];exact zHi (pf:=fun z=>Vi tr z) bV Pc.p Pc.r af fun z y hy=>Gr (vW (by rw [KA];exact Py) z y hy)
theorem c7 {p:Nat} {n:Int} {l:List (Int × Nat)} (h:ai p n l=true) {i:Nat} (hi:i<l.length):Es p n l i=false:=by
 unfold ai at h;have h1:=fe.1 h i (pj.2 hi)
 simpa using h1
theorem LV {p:Nat} {n:Int} {l:List (Int × Nat)} (h:ai p n l=true):∀ i,i<l.length -> (i:Int) <= (l.getD i (0,0)).1 /\ (l.getD i (0,0)).1<n /\ (l.getD i (0,0)).2<p
 | 0,hi=>by
  have h1:=c7 h hi;unfold Es at h1;simp only [Bool.or_eq_false_iff,Nu,Bool.and_eq_false_iff] at h1;omega
 | i+1,hi=>by
  have h1:=c7 h hi;have h2:=LV h i zO;unfold Es at h1;simp only [Bool.or_eq_false_iff,Nu,Bool.and_eq_false_iff,Nat.add_sub_cancel] at h1;omega
theorem NV {p:Nat} {n:Int} {l:List (Int × Nat)} (h:ai p n l=true) (hn:0 <= n):(l.length:Int) <= n:=by
 by_cases hl:l.length=0
 ·omega
 ·have:=LV h (l.length-1) zO
  omega
theorem OV {p:Nat} {n:Int} {l:List (Int × Nat)} (h:ai p n l=true):∀ t∈l,0 <= t.1 /\ t.1<n /\ t.2<p:=fun t ht=>by
 obtain ⟨i,hi,rfl⟩:=Ym ht;have:=LV h i hi;rw [Fb,Qb hi] at this;simp only [Option.getD_some] at this;omega
theorem zBo {p:Nat} {pub vars:Int} {rows:List Ua} (h:Yc p pub vars rows=true):∀ r∈rows,ai p vars r.a=true /\ ai p vars r.b=true /\ ai p vars r.c=true:=fun r hr=>by
 unfold Yc at h;rw [Vb] at h;have h1:=fe.1 h.2 r hr;unfold On at h1;rw [Vb,Vb] at h1;exact ⟨h1.1.1,h1.1.2,h1.2⟩
theorem fK {p:Nat} {pub vars:Int} {rows:List Ua} (h:Yc p pub vars rows=true):0 <= pub /\ pub<vars /\ vars <= 65536 /\ rows.length <= 16384:=by
 simp only [Yc,Vb,Gl,Nu] at h;omega
theorem zBp {p:Nat} {pub vars:Int} {rows:List Ua} (h:Yc p pub vars rows=true):sX rows:=fun r hr=>by
 have h1:=zBo h r hr;have h2:=fK h;have a1:=NV h1.1 zO;have a2:=NV h1.2.1 zO;have a3:=NV h1.2.2 zO;omega
theorem Q6:∀ (rows:List Ua),(rows.flatMap qL).length=3*rows.length+2*aH rows
 | []=>rfl
 | r :: rows=>by
  have h1:=Q6 rows;rw [List.flatMap_cons,jj,h1];simp only [qL,UA,Ec,jj,Jg,R6,aH,List.map_cons,List.sum_cons];simp
  omega
theorem RZ {p:Nat} {pub vars:Int} {rows:List Ua} (h:Yc p pub vars rows=true) (hs:PH rows):iH p pub vars rows where
 pl:=(Rb (ZG h)).2
 pubI:=by have:=fK h;omega
 varI:=by have:=fK h;omega
 n:=(fK h).2.2.2
 sides:=fun r hr k hk=>by
  have h1:=zBp h r hr;unfold Ec;split
  ·exact h1.1
  ·split
   ·exact h1.2.1
   ·exact h1.2.2
 terms:=fun r hr k hk t ht=>by
  have h1:=zBo h r hr;have h2:=fK h;have h3:=(Rb (ZG h)).2;unfold Ec at ht;split at ht
  ·have:=OV h1.1 t ht;omega
  ·split at ht
   ·have:=OV h1.2.1 t ht;omega
   ·have:=OV h1.2.2 t ht;omega
 len:=by
  have h1:=hs (zBp h);simp only [Ou,jj,Jg,List.length_nil,Q6];omega
theorem zGM (L:Na) (pu La al be:Nat) (vars:Int) (A AM D0 D1 D2 D3 D4:Option vy) (R c T cM n0 n1 n2 n3 n4 k0 k1 k2 k3 k4:Nat) (rows:List Ua) (m r:List (List Nat)) (co li qu sa:List Nat) (w:vw)
  (hL:Nb L) (hF:Gu L pu vars rows) (hr:RSl 3 je w [ve A R c] rows) (hV:Wx vars rows)
  (hm:Xg w [ve AM T cM] m) (h0:Xg w [ve D0 n0 k0] r) (h1:RWd w [ve D1 n1 k1] co) (h2:RWd w [ve D2 n2 k2] li) (h3:RWd w [ve D3 n3 k3] qu) (h4:RWd w [ve D4 n4 k4] sa)
  (Sj:ey L r co li qu sa=true) (hmT:m.length=L.a+L.b+L.b+L.b) (Tj:∀ x∈m,x.length=L.block) :
  vB prog 65 #[vf (ib L),Zb L.p (pu:Int) vars (ve A R c),ve AM T cM,vf #[ve D0 n0 k0,ve D1 n1 k1,ve D2 n2 k2,ve D3 n3 k3,ve D4 n4 k4],vf #[vd vn al,vd vn La,vd vn be]] w fun e w'=>∃ v1 v2 v3,e=vl (.tuple #[v1,v2,v3]) /\
   w'.ownsRow w.1.size 22 1 v1 L.k (Oa ((List.range L.k).map (WA L.p L.k al (fun k=>co.getD k 0) (ay L m r) m.length))) /\
   w'.ownsRow w.1.size 22 1 v2 (L.k+L.block-1) (Oa ((List.range (L.k+L.block-1)).map (XA L.p (L.k+L.block-1) (fun k=>(Fg L li).getD k 0) (YB L (Uv L pu La rows) m r) m.length))) /\
   w'.ownsRow w.1.size 22 1 v3 (2*L.k-1) (Oa ((List.range (2*L.k-1)).map (oz L.p L.k (2*L.k-1) be (Hg L.p L.block qu qu.length) (dy L m r) (aF L m r) L.b))) /\ vA w.1.size w w':=by
 obtain ⟨zf,Kd⟩:=Rb hL.p;have OI:=hL.b1;have nw:=hL.b2;have Ek:=hL.q1;have Yu:=hL.q2;have hk:=hL.k;have VC:=hL.a;have Dw:=hL.b;have Mg:=hL.nk;obtain ⟨hlen,j0,hj0⟩:=Vy hL;have Di:L.block=2^L.block.log2:=by rw [hj0,Sz]
 obtain ⟨Fy,Z4,ow,Kg,Gp⟩:=YO Sj;have hTm:=(Yj hm).1;have hTr:=(Yj h0).1;have Nt:=(Yj hm).2.2.2;have Ra:=(Yj h0).2.2.2;have e1:=(Ob h1).1;have e2:=(Ob h2).1;have e3:=(Ob h3).1;have zy:T=L.a+L.b+L.b+L.b:=by omega
 have Re:n1=L.k:=by omega
 have BA:T=n0:=by omega
 subst Re BA;obtain ⟨len,bh⟩:=zEX (L.k+L.block-1);obtain ⟨Ti,YU⟩:=zEX (2*L.k-1);have Xd:n2+1=len:=by omega
 have zn:L.block+n3=Ti:=by omega
 have Yr:2 <= len:=by omega
 have WU:2 <= Ti:=by omega
 obtain ⟨DI,-⟩:=SQ hL Yr zO;obtain ⟨hM3,-⟩:=SQ hL WU zO;obtain ⟨RI,SI,IF⟩:=PM Yr;obtain ⟨og,Jp,ah⟩:=PM WU;have sl:=fun A n c=>(⟨A,n,c,rfl⟩:slc (ve A n c))
 have dq:=zH (fun w=>by have:=GG L.p L.block L.queries L.k L.n L.secret L.rows L.a L.b L.b L.b w hL.a hL.b hL.b hL.b;rw [<- zy] at this;exact this)
 have Au:=zH (fun w' (hb:vA w.1.size w w')=>by have:=L7 L D0 D1 D2 D3 D4 T k0 L.k k1 n2 k2 n3 k3 n4 k4 r co li qu sa w' hL (Pg tD _ _ _ _ hb h0) (Ab hb h1) (Ab hb h2) (Ab hb h3) (Ab hb h4);rw [Sj] at this;exact this)
 have su:=zH (fun w' (hb:vA w.1.size w w')=>H7 L (ve D0 T k0) (ve D2 n2 k2) (ve D3 n3 k3) (ve D4 n4 k4) D1 L.k k1 co w' (sl _ _ _) (sl _ _ _) (sl _ _ _) (sl _ _ _) (Ab hb h1) zO)
 have qH:=zH (fun w' (hb:vA w.1.size w w')=>by have:=I7 L (ve D0 T k0) (ve D1 L.k k1) (ve D3 n3 k3) (ve D4 n4 k4) D2 n2 k2 li w' hL (sl _ _ _) (sl _ _ _) (sl _ _ _) (sl _ _ _) (Ab hb h2) zO;rw [Xd] at this;exact this)
 have HQu:=zH (fun w' (hb:vA w.1.size w w')=>by have:=J7 L (ve D0 T k0) (ve D1 L.k k1) (ve D2 n2 k2) (ve D4 n4 k4) D3 n3 k3 qu w' hL (sl _ _ _) (sl _ _ _) (sl _ _ _) (sl _ _ _) (Ab hb h3) zO;rw [zn] at this;exact this)
 have mH:=zH (fun w' (hb:vA w.1.size w w')=>I9 L pu La vars A R c rows w' hL hF (Pg Og _ _ _ _ hb hr) hV)
 have HMl:=zH (fun a b w=>Kr L.p a b w hL.p)
 have HNg:=zH (fun a w=>J2 L.p a w hL.p)
 have xO:=zH (fun A c B d msg Bf w hl XF=>by have:=K7 L A B L.block c L.queries d msg Bf w hL hl XF rfl zO;rw [<- hk] at this;exact this)
 have HInv:=zH (fun A c l w hl=>aS L.p A L.block c L.block.log2 l w hL.p hl hlen Di)
 have HMu1:=zH (fun A c B d a b w ha hb=>zBm L.p A B L.block c L.k d ((len-1).log2+1) (Cp len) len a b w hL.p ha hb zO zO zO zO DI RI zO SI IF)
 have HMu3:=zH (fun A c B d a b w ha hb=>zBm L.p A B L.k c L.k d ((Ti-1).log2+1) (Cp Ti) Ti a b w hL.p ha hb zO zO zO zO hM3 og zO Jp ah)
 have Hv:=zH (fun s g base gb na ca nb cb mb t F G w ka kb hg hb ht hm=>zCl L.p s g base gb na ca nb cb mb t F G w hL.p ka kb hg hb ht hm)
 have HSp:=zH (show ∀ (g:Nat) (w:vw),vB prog 146 #[vf (ib L),ve (vE ⟨g,0,vD⟩) T T] w fun e w'=>(∃ X1 X2 X3 c1 c2 c3,e=vl (.tuple #[ve (vE ⟨g,0,vD⟩) L.a T,ve X1 L.b c1,ve X2 L.b c2,ve X3 L.b c3]) /\ (0<L.b -> X1=vE ⟨g,L.a,vD⟩ /\ X2=vE ⟨g,L.a+L.b,vD⟩ /\ X3=vE ⟨g,L.a+L.b+L.b,vD⟩)) /\ vA w.1.size w w' from fun g w=>by
  have hs:=zI0 L (vE ⟨g,0,vD⟩) T T L.a (L.a+L.b) (L.a+L.b+L.b) w hL rfl rfl rfl zO zR (by simp [maxLen];omega)
  have a1:L.a+L.b-L.a=L.b:=by omega
  have a2:L.a+L.b+L.b-(L.a+L.b)=L.b:=by omega
  have a3:T-(L.a+L.b+L.b)=L.b:=by omega
  unfold cA at hs;rw [a1,a2,a3] at hs;refine hs.mono ?_;rintro e w' ⟨rfl,hb⟩;refine ⟨⟨_,_,_,_,_,_,rfl,fun h=>⟨?_,?_,?_⟩⟩,hb⟩
  ·rw [ya zO]
   show vE ((⟨g,0,vD⟩:vy).add L.a)=_
   rw [zm,Nj]
  ·rw [ya zO]
   show vE ((⟨g,0,vD⟩:vy).add (L.a+L.b))=_
   rw [zm,Nj]
  ·rw [ya zO]
   show vE ((⟨g,0,vD⟩:vy).add (L.a+L.b+L.b))=_
   rw [zm,Nj])
 obtain ⟨N1,Ql⟩:=zEX (Cp len);obtain ⟨N3,yy⟩:=zEX (Cp Ti);have fj:=zH (show len <= N1 /\ Ti <= N3 by rw [Ql,yy];exact ⟨SI,Jp⟩)
 rw [<- Ql] at HMu1;rw [<- yy] at HMu3;obtain ⟨Eh,NC⟩:=zEX (Uv L pu La rows);have Ez:=zH (show Eh.length=T by
  rw [NC];unfold Uv rq;rw [Vv,Vv,Vv,Vv];simp only [Nl,Df,List.range_zero,List.flatMap_nil,List.length_nil];simp
  omega)
 have HCR:=zH (show ∀ x∈Eh,x.length=L.block by
  rw [NC];intro x hx;unfold Uv at hx;obtain ⟨i,k,-,-,rfl⟩:=ZO hx;simp [Ir])
 rw [<- NC] at mH;obtain ⟨Rw,lA⟩:=zEX (ay L m r);obtain ⟨Rl,hRl⟩:∃ Rl:Nat -> List Nat,Rl=fun i=>(List.range L.k).map (Rw i):=⟨_,rfl⟩
 obtain ⟨Dv,hDv⟩:=zEX (YB L Eh m r);obtain ⟨XY,Nr⟩:=zEX (dy L m r);obtain ⟨fC,hfC⟩:=zEX (WA L.p L.k al (fun k=>co.getD k 0) Rw)
 obtain ⟨fL,hfL⟩:=zEX (XA L.p len (fun k=>(Fg L li).getD k 0) Dv)
 obtain ⟨fQ,hfQ⟩:=zEX (oz L.p L.k Ti be (Hg L.p L.block qu n3) XY (fun j=>Rw (L.a+L.b+L.b+j)))
 obtain ⟨P,hP⟩:=zEX (eh L.p al);obtain ⟨P2,CC⟩:=zEX (eh L.p be);have OE:=zH (show ∀ i (h1:i<m.length) (h2:i<r.length),uv L m[i] r[i]=Rw i from fun i h1 h2=>by
  rw [lA];unfold ay;rw [Fb,Fb,Qb h1,Qb h2]
  rfl)
 have Rx:=zH (show ∀ i,(List.range L.k).map (Rw i)=Rl i from fun i=>by rw [hRl])
 have HRX:=zH (show ∀ i k,Rw i k<18446744073709551616 from fun i k=>by rw [lA];exact Uk (U7 zO _ _ _) Kd)
 have HIX:=zH (show ∀ l k,Dn L.p L.block L.block.log2 l k<18446744073709551616 from fun l k=>Uk (mc _ zO) Kd)
 have Wp:=zH (show ∀ i (h1:i<Eh.length),TA L.p N1 ((len-1).log2+1) ((List.range L.block).map (Dn L.p L.block L.block.log2 Eh[i])) (Rl i)=Dv i from fun i h1=>by
  rw [hDv,Ql,bh,hRl,lA];unfold YB Dr;rw [Fb,Qb h1]
  rfl)
 have fo:=zH (show ∀ j,TA L.p N3 ((Ti-1).log2+1) (Rl (L.a+j)) (Rl (L.a+L.b+j))=XY j from fun j=>by
  rw [Nr,yy,YU,hRl,lA]
  rfl)
 have HC0:=zH (show Oa co=Oa ((List.range L.k).map (fC 0)) by rw [hfC];show _=Oa ((List.range L.k).map fun k=>co.getD k 0);rw [BR co L.k ow.1])
 have Il:=zH (show ∀ i,fC (i+1)=uo L.p (P (i+1)) (fC i) (Rw i) L.k from fun i=>by rw [hfC,hP];rfl)
 have wu:=zH (show Oa (Fg L li)=Oa ((List.range len).map (fL 0)) by rw [hfL];show _=Oa ((List.range len).map fun k=>(Fg L li).getD k 0);rw [BR (Fg L li) len (by simp [Fg];omega)])
 have Xn:=zH (show ∀ i,fL (i+1)=uo L.p 1 (fL i) (Dv i) len from fun i=>by rw [hfL];rfl)
 have Hz:=zH (show Hg L.p L.block qu n3=fQ 0 by rw [hfQ];rfl)
 have xu:=zH (show ∀ j,fQ (j+1)=uo L.p (tg L.p (P2 (j+1))) (uo L.p (P2 (j+1)) (fQ j) (XY j) Ti) (Rw (L.a+L.b+L.b+j)) L.k from fun j=>by rw [hfQ,CC];rfl)
 have Px:=zH (show P 0=1 by rw [hP];rfl)
 have Jv:=zH (show ∀ i,P (i+1)=P i*al%L.p from fun i=>by rw [hP];rfl)
 have Iz:=zH (show P2 0=1 by rw [CC];rfl)
 have cq:=zH (show ∀ i,P2 (i+1)=P2 i*be%L.p from fun i=>by rw [CC];rfl)
 have HCX:=zH (show ∀ k,fC T k<18446744073709551616 from fun k=>by
  rw [hfC];exact Uk (nR zO (fun k=>fw zO ow.2 k) _ _) Kd)
 have yh:=zH (show ∀ k,fL T k<18446744073709551616 from fun k=>by
  rw [hfL];refine Uk (qR zO (fun k=>?_) _ _) Kd
  cases k with
  | zero=>exact uN zO _ _
  | succ k=>exact fw zO Kg.2 k)
 have HQX:=zH (show ∀ k,fQ L.b k<18446744073709551616 from fun k=>by
  rw [hfQ];exact Uk (RN zO (fun k=>qE zO _ _ _) _ _) Kd)
 rw [<- bh,<- YU];have Xp:=zH (show WA L.p L.k al (fun k=>co.getD k 0) (ay L m r) m.length=fC T by rw [hfC,lA,hTm])
 have Ii:=zH (show XA L.p len (fun k=>(Fg L li).getD k 0) (YB L (Uv L pu La rows) m r) m.length=fL T by rw [hfL,hDv,NC,hTm])
 have BE:=zH (show oz L.p L.k Ti be (Hg L.p L.block qu qu.length) (dy L m r) (aF L m r) L.b=fQ L.b by rw [hfQ,Nr,lA,<- e3];rfl)
 rw [Xp.out,Ii.out,BE.out];have rH:=zH Tj;have HCW:=zH Z4;have HTM:=zH hTm;have HTR:=zH hTr;have gk:4 <= L.k /\ L.k <= 320 \/ 3 <= L.k /\ L.k <= 320:=by omega
 have gk1:3 <= L.k:=by omega
 have gk2:L.k <= 320:=by omega
 have gl1:len <= 600:=by omega
 have gl0:2 <= len:=Yr;have gl3:Ti <= 700:=by omega
 have HT4:=zH zy;have gkl:L.k <= Ti:=by omega
 have gT:T <= 400000:=by omega
 have mk:=R7 T zO;have gTi:(T:Int) <= 400000:=by omega
 have gT0:(0:Int)<=T:=by omega
 have d0:((T:Int)!=T)=false:=by simp
 have gb1:2 <= L.block:=OI;have gb2:L.block <= 256:=nw;have glb:(L.b:Int) <= 100000:=by omega
 clear zf Kd OI nw Ek Yu hk VC Dw Mg hlen hj0 Di Fy Z4 ow Kg Gp hTm hTr e1 e2 e3 zy Xd zn Yr WU DI hM3 RI SI IF og Jp ah hL hF hr hV hm h0 h1 h2 h3 h4 Sj hmT Tj Ql yy NC lA hRl hDv Nr hfC hfL hfQ hP CC gk Xp Ii BE bh YU sl;unfold ib Zb fv at *;obtain ⟨kl,kt,kc,kx,da,jb⟩:=sM w 101 25 41 136 #[vd vn L.p,vd vq L.block,vd vq L.queries,vd vq L.k,vd vq L.n,vd vq L.secret,vd vq L.rows,vd vq L.a,vd vq L.b,vd vq L.b,vd vq L.b] #[vd vn L.p,vd vq pu,vd vq vars,ve A R c] #[ve D0 T k0,ve D1 L.k k1,ve D2 n2 k2,ve D3 n3 k3,ve D4 n4 k4] #[vd vn al,vd vn La,vd vn be];go_enter func65,ntmps65
 go_upto_region 1 with fail
 generalize (((w.alloc _).alloc _).alloc _).alloc _=w1 at kl kt kc kx da jb |-;have hN:w.1.size+4 <= w1.1.size:=by omega
 clear jb;have cl:=kl.cell;go_wp2_with fail
 refine (dq.out _).mono ?_;rintro e w2 ⟨rfl,xa⟩;replace kl:=ia kl xa;replace kt:=ia kt xa;replace kc:=ia kc xa;replace kx:=ia kx xa;replace da:=ma da xa;replace hN:=zb hN xa.size;clear xa cl;have cl:=kl.cell;have cc:=kc.cell;go_wp2_with fail
 refine (Au.out _ da).mono ?_;rintro e w3 ⟨rfl,xa⟩;replace kl:=ia kl xa;replace kt:=ia kt xa;replace kc:=ia kc xa;replace kx:=ia kx xa;replace da:=ma da xa;replace hN:=zb hN xa.size;clear xa cl cc dq Au;have cl:=kl.cell;go_upto_region 4 with fail
 obtain ⟨kf,ja⟩:=zN w3 224 #[vd vn L.p];replace kl:=ia kl ja;replace kt:=ia kt ja;replace kc:=ia kc ja;replace kx:=ia kx ja;replace da:=ma da ja;generalize w3.alloc _=w4 at kl kt kc kx kf da |-;obtain ⟨gf,XI⟩:=zEX (w3.1.size);rw [<- XI] at kf hN |-;have hgf4:=kf.lt;clear ja cl XI;have cl:=kl.cell;have ll:=kl.lt;have cc:=kc.cell;have lc:=kc.lt;refine zd (Wb) [2,5,8] [0,1,3,4,6,7,2,5,8,9,10,11] zK zK ?_;refine Ue (oa) ?_;intro Wc Ja ea;have Ma:=jg Ja;replace kl:=ia kl Ma;replace kt:=ia kt Ma;replace kc:=ia kc Ma;replace kx:=ia kx Ma;replace kf:=ia kf Ma;replace da:=ma da Ma;have hgfW:gf<Wc.1.size:=kf.lt;refine Pb ?_;refine Ic oa rfl rfl rfl ((su.out _ da).mono ?_);rintro e w5 ⟨v1,rfl,o1,Za⟩;refine ⟨_,rfl,Za,?_⟩;replace ea:=zM oa ea (Za);refine zPU ?_;obtain ⟨g1,ca1,rfl,og,hg1'⟩:=World.ownsRow.form o1 zO;replace o1:=yv o1 da.size;replace kl:=ia kl Za;replace kt:=ia kt Za;replace kc:=ia kc Za;replace kx:=ia kx Za;replace kf:=ia kf Za;replace da:=ma da Za;refine Pb ?_;refine Ic oa rfl rfl rfl ((qH.out _ da).mono ?_);rintro e w6 ⟨v2,rfl,o2,tc⟩;refine ⟨_,rfl,tc,?_⟩;replace ea:=zM oa ea (tc);refine zPU ?_;obtain ⟨g2,ca2,rfl,Jp,hg2'⟩:=World.ownsRow.form o2 zO;replace o2:=yv o2 da.size;replace kl:=ia kl tc;replace kt:=ia kt tc;replace kc:=ia kc tc;replace kx:=ia kx tc;replace kf:=ia kf tc;replace da:=ma da tc;replace o1:=Mc o1 tc zR;refine Pb ?_;refine Ic oa rfl rfl rfl ((HQu.out _ da).mono ?_);rintro e w7 ⟨g3,rfl,ah,k3,Cd⟩;refine ⟨_,rfl,Cd,?_⟩;replace ea:=zM oa ea (Cd);refine zPU ?_;replace kl:=ia kl Cd;replace kt:=ia kt Cd;replace kc:=ia kc Cd;replace kx:=ia kx Cd;replace kf:=ia kf Cd;replace da:=ma da Cd;replace o1:=Mc o1 Cd zR;replace o2:=Mc o2 Cd zR;have UP:=k3.lt;refine Pb ?_;refine Hc ?_;rw [HC0.out] at o1;rw [wu.out] at o2;rw [Hz.out] at k3;clear Ma Za tc Cd ea Ja cl ll cc lc su qH HQu HC0 wu Hz;have x1:gf<g1:=by omega
 have x2:g1<g2:=by omega
 have x3:g2<g3:=by omega
 have x0:w.1.size+4 <= gf:=hN;clear hgf4 hgfW og hg1' Jp hg2' ah hN;go_upto_region 7 with fail
 have kr:=Blk.new w7 28 (ph T fun _=>ve vD 0 0)
 have ja:=zA w7 (.cells (ph T fun _=>ve vD 0 0) 28)
 replace kl:=ia kl ja;replace kt:=ia kt ja;replace kc:=ia kc ja;replace kx:=ia kx ja;replace kf:=ia kf ja;replace da:=ma da ja;replace o1:=Mc o1 ja zR;replace o2:=Mc o2 ja zR;replace k3:=ia k3 ja;generalize w7.alloc _=w8 at kl kt kc kx kf kr da o1 o2 k3 |-;obtain ⟨gr,Wa⟩:=zEX (w7.1.size);rw [<- Wa] at kr UP |-;have x4:g3<gr:=UP;have hg8:=kr.lt;clear ja Wa UP mk;have cl:=kl.cell;have ct:=kt.cell;have cx:=kx.cell;go_wp2_with fail
 refine (mH.out _ da).mono ?_;rintro e w9 ⟨vC,rfl,hC,xa⟩;replace kl:=ia kl xa;replace kc:=ia kc xa;replace kx:=ia kx xa;replace kf:=ia kf xa;replace da:=ma da xa;replace o1:=Mc o1 xa zR;replace o2:=Mc o2 xa zR;replace k3:=ia k3 xa;replace kr:=ia kr xa;obtain ⟨N,hNe⟩:=zEX (w8.1.size);rw [<- hNe] at hC hg8;have hN9:N <= w9.1.size:=by have:=xa.size;omega
 have x5:gr<N:=hg8;clear xa cl ct cx kt mH hNe hg8;obtain ⟨AC,nC,cC,rfl⟩:=RSl.slc hC.here;have hCn:=(Yj hC.here).1;have hnC:nC=T:=by rw [<- hCn];exact Ez.out
 subst hnC;clear hCn;have H1:=zH (show (1:Int)=((P 0:Nat):Int) by rw [Px.out];rfl)
 have H12:=zH (show (1:Int)=((P2 0:Nat):Int) by rw [Iz.out];rfl)
 go_wp2_with fail
 go_loopw [15,61] (fun b y wr=>∃ (i:Nat) (CS:Array vx),i <= nC /\ y=vd vq i /\ b=vd vn (P i:Int) /\ CS.size=nC /\ wr.ownsRow w.1.size 22 1 (ve (vE ⟨g1,0,vD⟩) L.k ca1) L.k (Oa ((List.range L.k).map (fC i))) /\ wr.ownsRow w.1.size 22 1 (ve (vE ⟨g2,0,vD⟩) len ca2) len (Oa ((List.range len).map (fL i))) /\ Blk wr gr 28 CS /\ XL N L.k wr CS i Rw /\ Uq g1 g2 gr w9 wr) (fun _ y _=>nC-(intOf y).toNat)
 case atStart=>exact ⟨0,_,Kb _,rfl,by rw [<- H1.out],by simp [ph],o1,o2,kr,fun k h=>zO,Z0 _ _ _ _⟩
 case round =>
  clear o1 o2 kr;obtain ⟨i,CS,hi,rfl,rfl,ry,o1,o2,kr,Vh,hx⟩:=hrel;have yl:=KM kl hx zO zO zO;have yc:=KM kf hx zO zO zO;have Nh:=KM kx hx zO zO zO;have kc1:=KM kc hx zO zO zO;have Ia:=ex3_to da hx da.size zO zO zO;by_cases ta:i<nC
  ·have q1:(i:Int)<nC:=by omega
   have q2:(0:Int)<=i:=by omega
   have hic:i<Eh.length:=by rw [Ez.out];exact ta
   have SC:i<m.length:=by rw [HTM.out];exact ta
   have hir:i<r.length:=by rw [HTR.out];exact ta
   obtain ⟨bc,qc,Ac,lc0,cc0,rfl,hbcN,hbc,ow,fJ⟩:=zAP hC hic;have z1:lc0=L.block:=by rw [(Ob (fJ w9 fun _ _ _=>rfl)).1];exact HCR.out _ (He hic)
   subst z1;obtain ⟨bm,qm,Am,lm,cm,rfl,hbm,Ao,gD⟩:=zv Nt SC;have z2:lm=L.block:=by rw [(Ob gD).1];exact rH.out _ (He SC)
   subst z2;obtain ⟨bk,qk,Ak,lk,ck,rfl,CF,hck,hrk⟩:=zv Ra hir;have z3:lk=L.queries:=by rw [(Ob hrk).1];exact (HCW.out _ (He hir)).1
   subst z3;have HRDi:=zH (OE.out i SC hir);have HDDi:=zH (Wp.out i hic);have HRo:Hid (∀ w':vw,vA w.1.size w w' -> vB prog 126 #[vf #[vd vn L.p,vd vq L.block,vd vq L.queries,vd vq L.k,vd vq L.n,vd vq L.secret,vd vq L.rows,vd vq L.a,vd vq L.b,vd vq L.b,vd vq L.b],ve Am L.block cm,ve Ak L.queries ck] w' fun e w2=>∃ g,e=vl (ve (vE ⟨g,0,vD⟩) L.k L.k) /\ w'.1.size <= g /\ Blk w2 g 22 (Qa L.k (Rw i)) /\ vA w'.1.size w' w2):=zH (fun w' hb=>by rw [<- HRDi.out];exact xO.out Am cm Ak ck m[i] r[i] w' (Ab hb gD) (Ab hb hrk))
   obtain ⟨ci,qA⟩:=zEX (Eh[i]);rw [<- qA] at fJ HDDi;have HRC:=zH fJ;obtain ⟨y0,rD⟩:=zEX (P i);obtain ⟨y1,Ie⟩:=zEX (P (i+1));have HP1i:=zH (Jv.out i);have HC1i:=zH (Il.out i);have HL1i:=zH (Xn.out i);rw [<- rD,<- Ie] at HP1i;rw [<- Ie] at HC1i;rw [<- rD];have HY1:=zH Ie;have Of:Hid (∀ w:vw,vB prog 142 #[vf #[vd vn L.p],vd vn y0,vd vn al] w fun e w'=>e=vl (vd vn y1) /\ vA w.1.size w w'):=zH (fun w=>by rw [HP1i.out];exact HMl.out y0 al w)
   have cci:=(aC (hx.2 bc hbc zO zO zO)).trans ow;have cmi:=(Ia.cell (p:=⟨bm,qm+i,vD⟩) hbm).trans Ao;have cki:=(Ia.cell (p:=⟨bk,qk+i,vD⟩) CF).trans hck;have lbm:bm<wr.1.size:=pd hbm Ia.size;have lbk:bk<wr.1.size:=pd CF Ia.size;have Ql:N <= wr.1.size:=zb hN9 hx.1.size;clear rD Ie qA ow Ao hck gD hrk fJ;have cl:=yl.cell;have ll:=yl.lt;have cc:=kc1.cell;have lc:=kc1.lt;go_upto_region 10 with fail
   clear cci;refine yB (Wb) [12,14] [14] [0,1,2,3,4,5,6,7,8,9,10,11,12,13,14] zK zK ?_;refine AB (oa) ?_;intro Wc Ja ea;have Ma:=jg Ja;replace yc:=ia yc Ma;replace Nh:=ia Nh Ma;replace kr:=ia kr Ma;replace o1:=Mc o1 Ma zR;replace o2:=Mc o2 Ma zR;replace Ia:=ma Ia Ma;replace hx:=my hx (ly Ma);replace Vh:=Sv Vh (bF Ma);replace Ql:=zb Ql Ma.size;refine Ro ?_;refine ku (oa) rfl rfl rfl (fun _=>by go_simp <;> rfl) ((HRo.out _ Ia).mono ?_)
   rintro e wA ⟨gA,rfl,hgA,kA,Dy⟩;refine ⟨_,rfl,fun _=>Dy,?_⟩
   replace ea:=zM oa ea (Dy);refine zPU ?_;replace yc:=ia yc Dy;replace Nh:=ia Nh Dy;replace kr:=ia kr Dy;replace o1:=Mc o1 Dy zR;replace o2:=Mc o2 Dy zR;replace Ia:=ma Ia Dy;replace hx:=my hx (ly Dy);replace Vh:=Sv Vh (bF Dy);clear ea Ma Dy Ja cl ll cc lc cmi cki lbm lbk yl kc1;have ea:=(oa).refl wA;have eF:=kr.cell i;rw [Array.getElem?_eq_getElem zO] at eF;have fkr:=kr.frozen;refine Ro ?_;refine ak (oa) rfl rfl rfl ?_;go_simp;refine ⟨fun h=>Bool.noConfusion h,?_⟩
   have Lb:=Zj (w:=wA) gr i (ve (vE ⟨gA,0,vD⟩) L.k L.k);replace kr:=kr.set_ i (ve (vE ⟨gA,0,vD⟩) L.k L.k);have kA0:=kA;replace kA:=kA.grown Lb (fun e=>by have:=Ya e;omega)
   replace yc:=yc.grown Lb (fun e=>by have:=Ya e;omega)
   replace Nh:=Nh.grown Lb (fun e=>by have:=Ya e;omega)
   replace Vh:=Sv Vh (NO Lb x5);replace o1:=JK o1 (rC (g1:=gr) (g2:=gr) (g3:=gr) Lb (.inl rfl)) zO zO zO;replace o2:=JK o2 (rC (g1:=gr) (g2:=gr) (g3:=gr) Lb (.inl rfl)) zO zO zO;replace hx:=my hx (rC Lb (.inr (.inr rfl)));clear kA0 Lb eF fkr ea Ia;generalize wA.setCell _ _=wB at kr kA yc Nh Vh o1 o2 hx |-;have ea:=(oa).refl wB;refine Ro ?_;refine zB ?_;replace Vh:=zCW Vh zO (by omega:N <= gA) kA
   have hCS2:(CS.setIfInBounds i (ve (vE ⟨gA,0,vD⟩) L.k L.k)).size=nC:=by simp [ry]
   have hCi:(CS.setIfInBounds i (ve (vE ⟨gA,0,vD⟩) L.k L.k))[i]?=vE (ve (vE ⟨gA,0,vD⟩) L.k L.k):=by simp [show i<CS.size by omega]
   generalize CS.setIfInBounds i _=CS2 at kr Vh hCS2 hCi;have x6:N <= gA:=by omega
   clear ea ry hgA Ql;have cf:=yc.cell;have cx:=Nh.cell;go_wp2_with fail
   refine (Of.out _).mono ?_;rintro e wC ⟨rfl,xa⟩;replace yc:=ia yc xa;replace Nh:=ia Nh xa;replace kr:=ia kr xa;replace kA:=ia kA xa;replace o1:=Mc o1 xa zR;replace o2:=Mc o2 xa zR;replace Vh:=Sv Vh (bF xa);replace hx:=my hx (ly xa);clear xa cf cx;have cf:=yc.cell;have lf:=yc.lt;have eF:=kr.cell i;rw [hCi] at eF;have lr:=kr.lt;have x7:gf≠g1:=by omega
   have x8:gr≠g1:=by omega
   go_upto_region 12 with fail
   refine zd (Vk g1) [7] [0,1,2,3,4,5,6,7] zK zK ?_;refine Ue (oe g1) ?_;intro Wc Ja ea;have Ma:=jg Ja;replace yc:=ia yc Ma;replace Nh:=ia Nh Ma;replace kr:=ia kr Ma;replace kA:=ia kA Ma;replace o1:=Mc o1 Ma zR;replace o2:=Mc o2 Ma zR;replace Vh:=Sv Vh (bF Ma);replace hx:=my hx (ly Ma);refine Sm ?_;refine Ic (oe g1) rfl rfl rfl ((Hv.out y1 g1 w.1.size gA L.k ca1 L.k L.k L.k L.k (fC i) (Rw i) _ o1 kA zO zR (Nat.min_self _).symm zO).mono ?_);rintro e wD ⟨rfl,bu,uA⟩;refine ⟨_,rfl,uA,?_⟩;replace ea:=zM (oe g1) ea (uA);refine zPU ?_;refine Sm ?_;refine Hc ?_;rw [<- HC1i.out] at bu;replace kA:=kA.grown uA (fun e=>by have:=Ya e;omega)
   replace yc:=yc.grown uA (fun e=>by have:=Ya e;omega)
   replace Nh:=Nh.grown uA (fun e=>by have:=Ya e;omega)
   replace kr:=kr.grown uA (fun e=>by have:=Ya e;omega)
   replace Vh:=Sv Vh (NO uA zO);replace o2:=JK o2 (rC (g1:=g1) (g2:=g1) (g3:=g1) uA (.inl rfl)) zO zO zO;replace hx:=my hx (rC uA (.inl rfl));clear ea Ma Ja cf lf eF lr uA o1;have GC:=zCF (N:=N) hx zO zO zO;have fJ:=HRC.out wD (fun b b1 b2=>GC.2 b b1 b2)
   have cf:=yc.cell;go_wp2_with fail
   refine (HInv.out Ac cc0 ci _ fJ).mono ?_;rintro e wE ⟨gE,rfl,hgE,kE,xa⟩;replace yc:=ia yc xa;replace Nh:=ia Nh xa;replace kr:=ia kr xa;replace kA:=ia kA xa;replace bu:=Mc bu xa zR;replace o2:=Mc o2 xa zR;replace Vh:=Sv Vh (bF xa);replace hx:=my hx (ly xa);clear xa cf GC fJ;have hE:=tC kE (fun k _=>HIX.out ci k) (by simp [maxLen];omega)
   have hA:=tC kA (fun k _=>HRX.out i k) (by simp [maxLen];omega)
   rw [Rx.out] at hA;have cf:=yc.cell;have lf:=yc.lt;have eF:=kr.cell i;rw [hCi] at eF;have lr:=kr.lt;go_upto_region 14 with fail
   refine zd (Wb) [6] [0,1,2,3,4,5,6,7,8,9,10,11] zK zK ?_;refine Ue (oa) ?_;intro Wc Ja ea;have Ma:=jg Ja;replace yc:=ia yc Ma;replace Nh:=ia Nh Ma;replace kr:=ia kr Ma;replace bu:=Mc bu Ma zR;replace o2:=Mc o2 Ma zR;replace hE:=Ab Ma hE;replace hA:=Ab Ma hA;replace Vh:=Sv Vh (bF Ma);replace hx:=my hx (ly Ma);have hW2:g2<Wc.1.size:=(o2.lt g2 rfl).2;refine Pb ?_;refine Ic oa rfl rfl rfl ((HMu1.out _ _ _ _ _ _ _ hE hA).mono ?_);rintro e wF ⟨gF,rfl,hgF,kF,Qi⟩;refine ⟨_,rfl,Qi,?_⟩;replace ea:=zM oa ea (Qi);refine zPU ?_;replace yc:=ia yc Qi;replace Nh:=ia Nh Qi;replace kr:=ia kr Qi;replace bu:=Mc bu Qi zR;replace o2:=Mc o2 Qi zR;replace Vh:=Sv Vh (bF Qi);replace hx:=my hx (ly Qi);rw [HDDi.out] at kF;refine Pb ?_;refine Hc ?_;clear ea Ma Ja cf lf eF lr Qi hE hA kE kA;have x9:g2≠gF:=by omega
   have cf:=yc.cell;go_wp2_with fail
   refine (Hv.out 1 g2 w.1.size gF len ca2 len N1 N1 len (fL i) (Dv i) _ o2 kF x9 fj.out.1 (Nat.min_self _).symm zO).mono ?_;rintro e wG ⟨rfl,o2',Gy⟩;rw [<- HL1i.out] at o2';replace kr:=kr.grown Gy (fun e=>by have:=Ya e;omega)
   replace Vh:=Sv Vh (NO Gy zO);replace bu:=JK bu (rC (g1:=g2) (g2:=g2) (g3:=g2) Gy (.inl rfl)) zO zO zO;replace hx:=my hx (rC Gy (.inr (.inl rfl)));clear Gy cf kF o2;go_wp2_with fail
   go_roundw
   case rel=>exact ⟨i+1,CS2,zO,by go_num,by rw [HY1.out],hCS2,bu,o2',kr,Vh,hx⟩
   case measure=>simp [intOf];omega
  ·obtain rfl:i=nC:=by omega
   have q1:¬((i:Int)<i):=by omega
   have Ql:N <= wr.1.size:=zb hN9 hx.1.size;have k3r:=KM k3 hx zO zO zO;obtain ⟨wo,hwo⟩:=zEX (wr);subst hwo;have cl:=yl.cell;go_wp2_with fail
   refine (HSp.out gr _).mono ?_;rintro e wS ⟨⟨X1,X2,X3,c1,c2,c3,rfl,hX⟩,xa⟩;replace yc:=ia yc xa;replace Nh:=ia Nh xa;replace kr:=ia kr xa;replace k3r:=ia k3r xa;replace o1:=Mc o1 xa zR;replace o2:=Mc o2 xa zR;replace Ia:=ma Ia xa;replace Vh:=Sv Vh (bF xa);have HX:=zH hX;clear xa cl hX yl kc1 kl kf kx kc k3 hx;go_wp2_with fail
   go_loopw [15,124] (fun b y wr=>∃ j:Nat,j <= L.b /\ y=vd vq j /\ b=vd vn (P2 j:Int) /\ wr.ownsRow w.1.size 22 1 (ve (vE ⟨g3,0,vD⟩) Ti Ti) Ti (Oa ((List.range Ti).map (fQ j))) /\ wS.grownBy wr (vE g3)) (fun _ y _=>L.b-(intOf y).toNat)
   case atStart=>exact ⟨0,Kb _,rfl,by rw [<- H12.out],n9 k3r zO (by simp [maxLen];omega),Ce _ _⟩
   case round =>
    clear k3r;obtain ⟨j,hj,rfl,rfl,o3,hg⟩:=hrel;by_cases hltj:j<L.b
    ·obtain ⟨rfl,rfl,rfl⟩:=HX.out zO
     have q2:(j:Int)<L.b:=by omega
     have q3:(0:Int)<=j:=by omega
     have pg:=yc.grown hg (fun e=>by have:=Ya e;omega)
     have Kn:=Nh.grown hg (fun e=>by have:=Ya e;omega)
     have uf:=kr.grown hg (fun e=>by have:=Ya e;omega)
     have Fh:=Sv Vh (NO hg zO);obtain ⟨ga,hca,hga,ka⟩:=Fh (L.a+j) (zQ HT4.out);obtain ⟨gb,hcb,il,kb⟩:=Fh (L.a+L.b+j) (zQ HT4.out);obtain ⟨gz,hcz,hgz,kz⟩:=Fh (L.a+L.b+L.b+j) (zQ HT4.out);have ha:=tC ka (fun k _=>HRX.out _ k) (by simp [maxLen];omega)
     have hb:=tC kb (fun k _=>HRX.out _ k) (by simp [maxLen];omega)
     rw [Rx.out] at ha hb;obtain ⟨y0,rD⟩:=zEX (P2 j);obtain ⟨y1,Ie⟩:=zEX (P2 (j+1));obtain ⟨nz,hnz⟩:=zEX (tg L.p y1);have HR1j:=zH (cq.out j);have HQ1j:=zH (xu.out j);have HXXj:=zH (fo.out j);rw [<- rD,<- Ie] at HR1j;rw [<- Ie,<- hnz] at HQ1j;rw [<- rD];have HY1:=zH Ie;have Of:Hid (∀ w:vw,vB prog 142 #[vf #[vd vn L.p],vd vn y0,vd vn be] w fun e w'=>e=vl (vd vn y1) /\ vA w.1.size w w'):=zH (fun w=>by rw [HR1j.out];exact HMl.out y0 be w)
     have Jl:Hid (∀ w:vw,vB prog 147 #[vf #[vd vn L.p],vd vn y1] w fun e w'=>e=vl (vd vn nz) /\ vA w.1.size w w'):=zH (fun w=>by rw [hnz];exact HNg.out y1 w)
     clear rD Ie hnz ka kb;have cf:=pg.cell;have cx:=Kn.cell;go_wp2_with fail
     refine (Of.out _).mono ?_;rintro e wC ⟨rfl,xa⟩;replace pg:=ia pg xa;replace uf:=ia uf xa;replace kz:=ia kz xa;replace ha:=Ab xa ha;replace hb:=Ab xa hb;replace o3:=Mc o3 xa zR;replace hg:=Vf hg xa hg.size;clear xa cf cx Kn Fh;have cf:=pg.cell;have lf:=pg.lt;have cra:=uf.cell (L.a+j);have crb:=uf.cell (L.a+L.b+j);rw [hca] at cra;rw [hcb] at crb;have lr:=uf.lt;go_upto_region 23 with fail
     refine zd (Wb) [9] [0,1,2,3,4,5,6,7,8,9,10,11,12,13,14] zK zK ?_;refine Ue (oa) ?_;intro Wc Ja ea;have Ma:=jg Ja;replace pg:=ia pg Ma;replace uf:=ia uf Ma;replace kz:=ia kz Ma;replace ha:=Ab Ma ha;replace hb:=Ab Ma hb;replace o3:=Mc o3 Ma zR;replace hg:=Vf hg Ma hg.size;have hW3:g3<Wc.1.size:=(o3.lt g3 rfl).2;refine Pb ?_;refine Ic oa rfl rfl rfl ((HMu3.out _ _ _ _ _ _ _ ha hb).mono ?_);rintro e wF ⟨gF,rfl,hgF,kF,Qi⟩;refine ⟨_,rfl,Qi,?_⟩;replace ea:=zM oa ea (Qi);refine zPU ?_;replace pg:=ia pg Qi;replace uf:=ia uf Qi;replace kz:=ia kz Qi;replace o3:=Mc o3 Qi zR;replace hg:=Vf hg Qi hg.size;rw [HXXj.out] at kF;refine Pb ?_;refine Hc ?_;clear ea Ma Ja cf lf cra crb lr Qi ha hb;have x9:g3≠gF:=by omega
     have cf:=pg.cell;go_wp2_with fail
     refine (Hv.out y1 g3 w.1.size gF Ti Ti Ti N3 N3 Ti (fQ j) (XY j) _ o3 kF x9 fj.out.2 (Nat.min_self _).symm zO).mono ?_;rintro e wG ⟨rfl,VA,Gy⟩;replace hg:=Mr hg Gy (fun _ e=>.inl e)
     replace pg:=pg.grown Gy (fun e=>by have:=Ya e;omega)
     replace uf:=uf.grown Gy (fun e=>by have:=Ya e;omega)
     replace kz:=kz.grown Gy (fun e=>by have:=Ya e;omega)
     clear Gy cf kF o3;have cf:=pg.cell;have lf:=pg.lt;have crz:=uf.cell (L.a+L.b+L.b+j);rw [hcz] at crz;have lr:=uf.lt;have Qo:gf≠g3:=by omega
     have x11:gr≠g3:=by omega
     go_upto_region 25 with fail
     refine zd (Vk g3) [8,9] [0,1,2,3,4,5,6,7,8,9] zK zK ?_;refine Ue (oe g3) ?_;intro Wc Ja ea;have Ma:=jg Ja;replace kz:=ia kz Ma;replace VA:=Mc VA Ma zR;replace hg:=Vf hg Ma hg.size;refine Sm ?_;refine Ic (oe g3) rfl rfl rfl ((Jl.out _).mono ?_);rintro e wH ⟨rfl,hbH⟩;refine ⟨_,rfl,O8 hbH,?_⟩;replace ea:=zM (oe g3) ea (O8 hbH);refine zPU ?_;replace kz:=ia kz hbH;replace VA:=Mc VA hbH zR;replace hg:=Vf hg hbH hg.size;refine Sm ?_;refine Ic (oe g3) rfl rfl rfl ((Hv.out nz g3 w.1.size gz Ti Ti L.k L.k L.k L.k (uo L.p y1 (fQ j) (XY j) Ti) (Rw (L.a+L.b+L.b+j)) _ VA kz zO zR zO zO).mono ?_);rintro e wI ⟨rfl,o3'',hgI⟩;refine ⟨_,rfl,hgI,?_⟩;replace ea:=zM (oe g3) ea (hgI);refine zPU ?_;refine Sm ?_;refine Hc ?_;rw [<- HQ1j.out] at o3'';replace hg:=Mr hg hgI (fun _ e=>.inl e)
     clear ea Ma Ja cf lf crz lr hbH hgI VA kz pg uf;go_wp2_with fail
     go_roundw
     case rel=>exact ⟨j+1,zO,by go_num,by rw [HY1.out],o3'',hg⟩
     case measure=>simp [intOf];omega
    ·obtain rfl:j=L.b:=by omega
     have q2:¬((L.b:Int)<L.b):=by omega
     replace o1:=JK o1 (rC (g1:=g3) (g2:=g3) (g3:=g3) hg (.inl rfl)) zO zO zO;replace o2:=JK o2 (rC (g1:=g3) (g2:=g3) (g3:=g3) hg (.inl rfl)) zO zO zO;have hE:=Ef Ia hg;clear hg;go_wp2;exact Sc (v:=.tuple #[ve (vE ⟨g1,0,vD⟩) L.k ca1,ve (vE ⟨g2,0,vD⟩) len ca2,ve (vE ⟨g3,0,vD⟩) Ti Ti]) (by simp [results,results65,go_sem]) rfl ⟨_,_,_,rfl,o1,o2,o3,hE⟩
def Uz (N:Nat) (w:vw) (xs:Nat -> vx) (n:Nat -> Nat) (vals:Nat -> List Nat):Prop :=
 (∀ j,j<3 -> w.ownsRow N 22 1 (xs j) (n j) (Oa ((vals j).take (n j)))) /\
 ∀ j i,j<3 -> i<3 -> j≠i -> ∀ q,(xs j).ownBlock=vE q -> (xs i).ownBlock=vE q -> False
theorem yR {N:Nat} {w w':vw} {xs:Nat -> vx} {n:Nat -> Nat} {vals:Nat -> List Nat} (h:Uz N w xs n vals) (hb:vA w.1.size w w'):Uz N w' xs n vals :=
 ⟨fun j hj=>Mc (h.1 j hj) hb zR,h.2⟩
theorem r3_set {N B:Nat} {w w':vw} {xs:Nat -> vx} {n:Nat -> Nat} {vals:Nat -> List Nat} (h:Uz N w xs n vals) (hg:w.grownBy w' (vE B)) (hB:B<N):Uz N w' xs n vals :=
 ⟨fun j hj=>IN (h.1 j hj) hg hB,h.2⟩
theorem r3_app {N k:Nat} {w w':vw} {xs:Nat -> vx} {n:Nat -> Nat} {vals:Nat -> List Nat} {x:vx} (h:Uz N w xs n vals) (hk:k<3) (ho:w'.ownsRow N 22 1 x (n k+1) (Oa ((vals k).take (n k+1)))) (hg:w.grownBy w' (xs k).ownBlock) (hb:x.ownBlock=(xs k).ownBlock \/ x.ownBlock=vE w.1.size):Uz N w' (Cv xs k x) (fun j=>if j=k then n k+1 else n j) vals:=by
 refine ⟨fun j hj=>?_,fun j i hj hi Sa q h1 h2=>?_⟩
 ·by_cases e:j=k
  ·subst e;simp only [Cv,if_true];exact ho
  ·simp only [Cv,ya e]
   exact B9 (h.1 j hj) hg fun q h1 h2=>h.2 j k hj hk e q h1 h2
 ·by_cases e:j=k
  ·subst e
   have e2:¬i=j:=fun e2=>Sa e2.symm
   rw [Cv,Ka rfl] at h1;rw [Cv,ya e2] at h2;exact PO (h.1 i hi) (h.2 j i hj hi Sa) hb q h1 h2
  ·rw [Cv,ya e] at h1
   by_cases e2:i=k
   ·subst e2
    rw [Cv,Ka rfl] at h2;exact PO (h.1 j hj) (h.2 i j hi hj (fun e=>Sa e.symm)) hb q h2 h1
   ·rw [Cv,ya e2] at h2
    exact h.2 j i hj hi Sa q h1 h2
theorem zGW (L:Na) (pu:Nat) (vars:Int) (A B:Option vy) (n c m d:Nat) (rows:List Ua) (ws:List Nat) (w:vw) (hL:Nb L) (hF:Gu L pu vars rows) (hr:RSl 3 je w [ve A n c] rows) (hw:RWd w [ve B m d] ws) (xl:(ws.length:Int)=vars) :
  vB prog 59 #[vf (ib L),Zb L.p (pu:Int) vars (ve A n c),ve B m d] w fun e w'=>∃ v,e=vl v /\ RRx w.1.size w' v (Hk L rows ws pu) /\ vA w.1.size w w':=by
 obtain ⟨Tj,Nt,hdx,ta,Zf⟩:=Ob hw;subst Tj;have gm:=Mm Nt hdx;have kD:=hF.sec;have Im:=hL.r;have EA:=hF.nr;obtain ⟨s,hs⟩:=zEX (1+pu);have e1:(1:Int)+pu=(s:Int):=by omega
 have e2:=Qc s;have e3:(s:Int)<=ws.length:=by omega
 have e4:s <= ws.length:=by omega
 have e5:(0:Int)<=s:=by omega
 have dv:((ws.length:Int) != vars)=false:=by rw [xl];simp
 rw [show Hk L rows ws pu=rq L.block (Df (ws.drop s) (qi L.p rows ws 0) (qi L.p rows ws 1) (qi L.p rows ws 2)) (Df L.a L.b L.b L.b) by rw [hs];rfl]
 have Kw:L.a=((ws.drop s).length+L.block-1) / L.block:=by
  rw [ti,show ws.length-s=L.secret by omega];exact hL.ae
 have Ek:∀ k,L.b=((qi L.p rows ws k).length+L.block-1) / L.block:=fun k=>by
  rw [show (qi L.p rows ws k).length=L.rows by simp [qi,EA]];exact hL.be
 have lG:RWd w [ve (if d=s then B else Option.map (fun x=>x.add s) B) (ws.length-s) (d-s)] (ws.drop s):=by
  have hc:=Zf.cut (k:=s) e4 Nt;rw [fp] at hc;refine ⟨_,_,_,rfl,zO,zO,?_,fun x hx=>ta x (List.mem_of_mem_drop hx)⟩
  have e:Oa (ws.drop s)=(Oa ws).drop s:=by simp [Oa]
  rw [e];exact hc
 have iJ:rows.length=n:=by
  obtain ⟨_,_,_,he,hn,-⟩:=hr;simp at he
  omega
 have To:=zH (fun w=>qT L pu vars A n c rows w hL hF iJ)
 have HVl:=zH (fun A len c l w' (hb:vA w.1.size w w') hl=>zBn L.p A B len c ws.length d l ws w' hl (Ab hb hw) hL.p)
 have HCut:=zH (fun v0 v1 v2 v3 l0 l1 l2 l3 w h hq=>L9 L v0 v1 v2 v3 l0 l1 l2 l3 w hL h hq)
 obtain ⟨A',n',c',he,hnl,Sd,Ih,Ra⟩:=hr;simp at he
 obtain ⟨rfl,rfl,rfl⟩:=he;subst iJ;have gr:(rows.length:Int) <= 65536:=by omega
 have dt:=zH (show ∀ k i (h:i<rows.length),(qi L.p rows ws k).take i++[Dc L.p (Ec rows[i] k) ws]=(qi L.p rows ws k).take (i+1) from fun k i h=>by
  rw [Lv (by simpa [qi] using h)]
  simp [qi])
 have zu:=zH (show ∀ k,(qi L.p rows ws k).take rows.length=qi L.p rows ws k from fun k=>VE (by simp [qi]))
 have HVT:=zH (show ∀ k,∀ x∈qi L.p rows ws k,x<18446744073709551616 from fun k x hx=>by
  obtain ⟨r,-,rfl⟩:=Od.1 hx;exact Uk (p7 (zQ (Rb hL.p)) _ _) (Rb hL.p).2)
 obtain ⟨vals,Q5⟩:=zEX (qi L.p rows ws);rw [<- Q5] at dt zu HVT Ek |-;have HQ:=zH (And.intro Kw Ek);obtain ⟨B0,hB0⟩:=zEX ((if d=s then B else Option.map (fun x=>x.add s) B))
 have HB0:=zH hB0;rw [<- hB0] at lG;obtain ⟨TC,hTC⟩:∃ TC:Array vx,TC=#[vd vn L.p,vd vq pu,vd vq vars,ve A rows.length c]:=⟨_,rfl⟩;have HTC:=zH hTC;have HT0:=zH (show TC[0]?=vE (vd vn L.p) by rw [hTC];rfl)
 have HT3:=zH (show TC[3]?=vE (ve A rows.length c) by rw [hTC];rfl)
 unfold ib Zb at *;obtain ⟨kl,kt,da,-⟩:=Yg w 101 25 #[vd vn L.p,vd vq L.block,vd vq L.queries,vd vq L.k,vd vq L.n,vd vq L.secret,vd vq L.rows,vd vq L.a,vd vq L.b,vd vq L.b,vd vq L.b] #[vd vn L.p,vd vq pu,vd vq vars,ve A rows.length c];clear hs Q5 Zf ta hw hB0 hTC Kw Ek kD Im EA xl hF hL;go_enter func59,ntmps59
 go_upto_region 1 with fail
 generalize (w.alloc _).alloc _=w1 at kl kt da |-;have cl:=kl.cell;have ct:=kt.cell;go_wp2_with fail
 refine (To.out _).mono ?_;rintro e w2 ⟨rfl,xa⟩;replace kl:=ia kl xa;replace kt:=ia kt xa;replace da:=ma da xa;clear xa cl ct To;have ct:=kt.cell;go_upto_region 4 with fail
 rw [<- HB0.out];clear e1 e2 e3 e4 e5 HB0 ct dv;obtain ⟨kv,ja⟩:=zN w2 219 #[ve B0 (ws.length-s) (d-s),ve vD 0 0,ve vD 0 0,ve vD 0 0];have n1:=kt.lt;have n2:=kl.lt;replace kl:=ia kl ja;replace kt:=ia kt ja;replace da:=ma da ja;clear ja;have uj:w2.1.size+1 <= (w2.alloc (.cells #[ve B0 (ws.length-s) (d-s),ve vD 0 0,ve vD 0 0,ve vD 0 0] 219)).1.size:=kv.lt;have zw:w.1.size <= w2.1.size:=by omega
 generalize ws.length-s=n0 at *;generalize d-s=d0 at *;generalize w2.alloc _=w3 at kl kt kv da uj |-;generalize w2.1.size=gv at kv n1 n2 uj zw |-;obtain ⟨V0,Ay⟩:∃ V0:vx,V0=ve B0 n0 d0:=⟨_,rfl⟩;have HV0:=zH Ay;rw [<- Ay] at kv lG;clear Ay;rw [<- HTC.out] at kt;have n3:w.1.size≠gv:=by omega
 have n4:w.1.size+1≠gv:=by omega
 obtain ⟨N,hN⟩:=zEX (gv+1);rw [<- hN] at uj;have nv:gv<N:=by omega
 have nv2:gv≠N:=by omega
 have n5:w.1.size<N:=by omega
 have n6:w.1.size+1<N:=by omega
 have n7:w.1.size <= gv:=by omega
 have n8:w.1.size≠N:=by omega
 clear hN;have ct:=kt.cell 3;rw [HT3.out] at ct;go_wp2_with fail
 clear ct;go_loopw [32] (fun y wr=>∃ (i:Nat) (xs:Nat -> vx),i <= rows.length /\ y=vd vq i /\ Blk wr w.1.size 101 #[vd vn L.p,vd vq L.block,vd vq L.queries,vd vq L.k,vd vq L.n,vd vq L.secret,vd vq L.rows,vd vq L.a,vd vq L.b,vd vq L.b,vd vq L.b] /\ Blk wr (w.1.size+1) 25 TC /\ Blk wr gv 219 #[V0,xs 0,xs 1,xs 2] /\ Uz N wr xs (fun _=>i) vals /\ vA w.1.size w wr /\ N <= wr.1.size) (fun y _=>rows.length-(intOf y).toNat)
 case atStart=>exact ⟨0,fun _=>ve vD 0 0,zO,rfl,kl,kt,kv,⟨fun j _=>⟨rfl, .inl ⟨rfl,rfl⟩⟩,fun j i _ _ _ q h=>by cases h⟩,da,uj⟩
 case round =>
  clear kl kt kv da uj;obtain ⟨i,xs,hi,rfl,kl,kt,kv,h3,da,uj⟩:=hrel;by_cases XC:i<rows.length
  ·have q1:(i:Int)<rows.length:=by omega
   have q2:(0:Int)<=i:=by omega
   obtain ⟨b,q,rfl⟩:=Ra.base zO zO;obtain ⟨cs,-,hc,u0,u1,u2,rfl,gG,iG,jG⟩:=Ra.get XC;have r0:w.cell? ⟨b,q+i*3,vD⟩=vE u0:=hc 0 zO;have r1:w.cell? ⟨b,q+i*3+1,vD⟩=vE u1:=hc 1 zO;have r2:w.cell? ⟨b,q+i*3+2,vD⟩=vE u2:=hc 2 zO;have lb:=Gf _ _ r0;replace r0:=(da.cell (p:=⟨b,q+i*3,vD⟩) lb).trans r0;replace r1:=(da.cell (p:=⟨b,q+i*3+1,vD⟩) lb).trans r1;replace r2:=(da.cell (p:=⟨b,q+i*3+2,vD⟩) lb).trans r2;obtain ⟨P0,m0,k0,rfl⟩:=RSl.slc gG;obtain ⟨P1,m1,Gi,rfl⟩:=RSl.slc iG;obtain ⟨P2,m2,k2,rfl⟩:=RSl.slc jG;have HVNi:=zH (show ∀ k,(vals k).take i++[Dc L.p (Ec (rows[i]'XC) k) ws]=(vals k).take (i+1) from fun k=>dt.out k i XC)
   obtain ⟨ri,hri⟩:=zEX (rows[i]'XC);rw [<- hri] at gG iG jG HVNi;clear hri;have HHI:=zH hi;obtain ⟨i1,Cw⟩:=zEX (i+1);have Mx:=zH Cw;have Xb:=zH XC;clear hc hi Cw;go_upto_region 7 with fail
   obtain ⟨kr,ja⟩:=zN wr 211 #[ve P0 m0 k0,ve P1 m1 Gi,ve P2 m2 k2];replace h3:=yR h3 ja;replace kl:=ia kl ja;replace kt:=ia kt ja;replace kv:=ia kv ja;replace da:=ma da ja;replace uj:=zb uj ja.size;clear ja r0 r1 r2;generalize wr.alloc _=wo at kr kl kt kv h3 da uj |-;generalize wr.1.size=gr at kr |-;have cr:=kr.cell;go_wp2_with fail
   clear cr kr;have HU0:=zH (fun w' (hb:vA w.1.size w w')=>Mh _ _ _ _ hb gG)
   have HU1:=zH (fun w' (hb:vA w.1.size w w')=>Mh _ _ _ _ hb iG)
   have HU2:=zH (fun w' (hb:vA w.1.size w w')=>Mh _ _ _ _ hb jG)
   clear gG iG jG;go_loopw [43] (fun y wr=>∃ (k:Nat) (xs:Nat -> vx),k <= 3 /\ y=vd vq k /\ Blk wr gv 219 #[V0,xs 0,xs 1,xs 2] /\ Uz N wr xs (fun j=>if j<k then i+1 else i) vals /\ So gv N wo wr /\ N <= wr.1.size) (fun y _=>3-(intOf y).toNat)
   case atStart=>exact ⟨0,xs,zO,rfl,kv,h3,(Yb _ _).refl _,uj⟩
   case round =>
    clear kv h3;obtain ⟨k,xs,hk,rfl,kv,h3,sc,Ql⟩:=hrel;have y1:w.1.size<gv+1:=by omega
    have y2:w.1.size+1<gv+1:=by omega
    have klr:=pZ kl sc n5 n3;have ktr:=pZ kt sc n6 n4;have yb:vA w.1.size w wr:=da.trans ⟨sc.1,sc.2.1,sc.2.2.1,sc.2.2.2.1,fun b hb=>sc.2.2.2.2 b zO zO⟩
    by_cases ta:k<3
    ·have g1:(k:Int)<3:=by omega
     have g2:(0:Int)<=k:=by omega
     obtain ⟨k1,Cq⟩:=zEX (k+1);have ek:(1:Int)+k=(k1:Int):=by omega
     have oI:=Qc k1;have HK1:=zH Cq;have qk:k1<4:=by omega
     have qk2:(k1:Int)<4:=by omega
     have qk3:(0:Int)<=k1:=by omega
     clear Cq;have Ca:wr.ownsRow N 22 1 (xs k) i (Oa ((vals k).take i)):=by have:=h3.1 k ta;simpa using this
     obtain ⟨Ax,cx,Sw,-⟩:=Ud Ca;have ix:=fun (w:vw)=>nQ (w:=w) (x:=ve P0 m0 k0) (y:=ve P1 m1 Gi) (z:=ve P2 m2 k2) ta
     obtain ⟨sel,bg⟩:=zEX ((if k=0 then ve P0 m0 k0 else if k=1 then ve P1 m1 Gi else ve P2 m2 k2))
     have Ul:RLin wr [sel] (Ec ri k):=by
      rw [bg];unfold Ec;have hfb:vA wo.1.size wo wr \/ True:=.inr trivial;rcases (show k=0 \/ k=1 \/ k=2 by omega) with h | h | h <;> subst h
      ·exact HU0.out _ yb
      ·exact HU1.out _ yb
      ·exact HU2.out _ yb
     rw [<- bg] at ix;obtain ⟨As,ns,ke,rfl⟩:=RSl.slc Ul;have vY:=zH (HVNi.out k);have cv:wr.cell? ⟨gv,k1,vD⟩=vE (ve Ax i cx):=by
      rw [kv.cell,HK1.out,eZ ta,Sw]
     obtain ⟨z,hz⟩:=zEX (Dc L.p (Ec ri k) ws);have ao:=zH (fun w' (hb:vA w.1.size w w') (Tl:RLin w' [ve As ns ke] (Ec ri k))=>by have:=HVl.out As ns ke (Ec ri k) w' hb Tl;rw [<- hz] at this;exact this)
     rw [<- hz] at vY;have rm:=zH Sw;have cl:=klr.cell;have ll:=klr.lt;have lv:=kv.lt;clear bg hz Sw;generalize Ec ri k=lside at *;go_upto_region 10 with fail
     refine yB (So N N) [10,11,12,14] [14] [0,1,2,3,4,5,6,7,8,9,10,11,12,13,14] zK zK ?_;refine AB (Yb N N) ?_;intro Wc Ja ea;have Ma:=jg Ja;have pc:N <= Wc.1.size:=by have:=Ma.size;omega
     replace kv:=ia kv Ma;replace Ca:=Mc Ca Ma zR;replace yb:=ma yb Ma;replace h3:=yR h3 Ma;replace Ul:=Mh _ _ _ _ Ma Ul;replace sc:=zM (Yb gv N) sc (Xk Ma Ql);clear Ja Ma;refine dm ?_;refine ku (Yb N N) rfl rfl rfl (fun _=>by go_simp <;> rfl) ((ao.out _ yb Ul).mono ?_)
     rintro e w6 ⟨rfl,tc⟩;refine ⟨_,rfl,fun _=>Xk tc pc,?_⟩
     replace ea:=zM (Yb N N) ea (Xk tc pc);refine zPU ?_;have EI:N <= w6.1.size:=by have:=tc.size;omega
     replace kv:=ia kv tc;replace Ca:=Mc Ca tc zR;replace yb:=ma yb tc;replace h3:=yR h3 tc;replace sc:=zM (Yb gv N) sc (Xk tc pc);clear tc Ul;refine dm ?_;refine ak (Yb N N) rfl rfl rfl ?_;go_simp;have ja:=zA w6 (.cells #[vd vn z] 22);have Cj:=sx w6 (vd vn z) 22;refine ⟨fun _=>Xk ja EI,?_⟩
     replace kv:=ia kv ja;replace Ca:=Mc Ca ja zR;replace yb:=ma yb ja;replace h3:=yR h3 ja;replace sc:=zM (Yb gv N) sc (Xk ja EI);have zi:=zb EI ja.size
     refine zPU ?_
     generalize w6.alloc _=w7 at kv Ca h3 sc Cj yb zi |-;generalize w6.1.size=g6 at Cj |-;clear ja EI ea cl cv;have ea:=(Yb N N).refl w7;refine dm ?_;refine ak (Yb N N) rfl rfl rfl ?_;refine zx _ _ rfl Et rfl (by rw [rm.out] at Ca;exact Ca) rfl Cj (Lq [z]) zO zi ?_
     intro v' wn Tb Va Cc;have Uc:∀ q,(ve Ax i cx).ownBlock=vE q -> N <= q:=fun q e=>by rw [<- rm.out] at e;exact (Ca.lt q e).1
     refine ⟨fun _=>oy Va zi Uc,?_⟩
     replace kv:=kv.grown Va (fun e=>by first | (have:=Uc _ e;omega) | (have:=Uc _ e.symm;omega))
     replace sc:=zM (Yb gv N) sc (oy Va zi Uc);replace Tb:wn.ownsRow N 22 1 v' (i+1) (Oa ((vals k).take (i+1))):=BG (b:=[z]) Tb vY.out;have h4:=r3_app (x:=v') h3 ta (by simpa using Tb) (by rw [rm.out];exact Va) (by rw [rm.out];exact Cc)
     obtain ⟨Aw,cw,rfl,-⟩:=Ud Tb;have Wh:=zb zi Va.size;clear Ca Va Cc Uc zi Cj ea h3 Tb;have ea:=(Yb N N).refl wn;have cv:wn.cell? ⟨gv,k1,vD⟩=vE (ve Ax i cx):=by
      rw [kv.cell,HK1.out,eZ ta,rm.out]
     have fv2:=kv.frozen
     refine zPU ?_
     refine dm ?_;refine ak (Yb N N) rfl rfl rfl ?_;go_simp;refine ⟨fun h=>Bool.noConfusion h,?_⟩
     have Lb:=Zj (w:=wn) gv k1 (ve Aw (i+1) cw);replace kv:=kv.set_ k1 (ve Aw (i+1) cw);rw [HK1.out,zCH ta,<- HK1.out] at kv;have h4:=r3_set h4 Lb nv;replace sc:=zM (Yb gv N) sc (uC Lb Wh);replace Wh:=zb Wh Lb.size;clear Lb cv fv2 ea;generalize wn.setCell _ _=wz at kv h4 sc Wh |-;have ea:=(Yb N N).refl wz;refine dm ?_;refine zB ?_;have h5:Uz N wz (Cv xs k (ve Aw (i+1) cw)) (fun j=>if j<k1 then i+1 else i) vals:=by
      have e:(fun j=>if j=k then (fun j=>if j<k then i+1 else i) k+1 else (fun j=>if j<k then i+1 else i) j)=(fun j=>if j<k1 then i+1 else i):=by
       funext j
       rw [HK1.out];by_cases e1:j=k
       ·subst e1;simp
       ·by_cases e2:j<k
        ·simp [e1,e2,show j<k+1 by omega]
        ·simp [e1,e2,show ¬j<k+1 by omega]
      rw [e] at h4;exact h4
     clear h4;have Um:=zH (show k1 <= 3 by omega)
     go_wp2
     go_roundw
     case rel=>exact ⟨k1,Cv xs k (ve Aw (i+1) cw),Um.out,by rw [HK1.out];go_num,kv,h5,sc,Wh⟩
     case measure=>simp [intOf];omega
    ·obtain rfl:k=3:=by omega
     have py:Uz N wr xs (fun _=>i1) vals:=by
      refine ⟨fun j hj=>?_,h3.2⟩
      have:=h3.1 j hj;simp only [Ka hj] at this;rw [Mx.out];exact this
     clear h3;have HEE:=zH (show i1 <= rows.length by have:=Xb.out;have:=Mx.out;omega)
     go_wp2_with fail
     go_roundw
     case rel=>exact ⟨i1,xs,HEE.out,by rw [Mx.out];go_num,klr,ktr,kv,py,yb,Ql⟩
     case measure=>have:=Xb.out;simp [intOf];omega
  ·obtain rfl:i=rows.length:=by omega
   have q2:¬((rows.length:Int)<rows.length):=by omega
   have h0:=h3.1 0 zO;have h1:=h3.1 1 zO;have h2:=h3.1 2 zO;rw [zu.out] at h0 h1 h2;obtain ⟨A1,c1,e1,h0⟩:=gX h0 (HVT.out 0);obtain ⟨A2,c2,e2,h1⟩:=gX h1 (HVT.out 1);obtain ⟨A3,c3,e3,h2⟩:=gX h2 (HVT.out 2);have hv:=Ab da lG;have HH:=zH (fun (w':vw) (hb:vA wr.1.size wr w')=>HCut.out V0 (xs 0) (xs 1) (xs 2) (ws.drop s) (vals 0) (vals 1) (vals 2) w' (fun i hi=>by
    rw [e1,e2,e3];rcases (show i=0 \/ i=1 \/ i=2 \/ i=3 by omega) with rfl | rfl | rfl | rfl
    ·exact Ab hb hv
    ·exact Ab hb h0
    ·exact Ab hb h1
    ·exact Ab hb h2) (fun i hi=>by
    rcases (show i=0 \/ i=1 \/ i=2 \/ i=3 by omega) with rfl | rfl | rfl | rfl
    ·exact HQ.out.1
    ·exact HQ.out.2 0
    ·exact HQ.out.2 1
    ·exact HQ.out.2 2))
   rw [e1,e2,e3,HV0.out] at kv HH;have cl:=kl.cell;have cv:=kv.cell;have ll:=kl.lt;have lv:=kv.lt;clear h3 h0 h1 h2 hv e1 e2 e3;go_wp2_with fail
   refine (HH.out _ (tb _ _)).mono ?_;rintro e w9 ⟨v,rfl,hov,xa⟩;go_wp2;go_ret
   exact ⟨_,rfl,hov.mono da.size,ma da xa⟩
end Go.Proofs.YteoghgbnielkpaaGreat
