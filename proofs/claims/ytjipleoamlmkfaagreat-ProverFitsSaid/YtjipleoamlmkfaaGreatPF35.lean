/- A part of the proof. No condition. -/
import Derived.Test.YtjipleoamlmkfaaGreatProg
import Derived.Test.YtjipleoamlmkfaaGreatPF23
import Derived.Test.YtjipleoamlmkfaaGreatPF25
import Derived.Test.YtjipleoamlmkfaaGreatPF32
import Derived.Test.YtjipleoamlmkfaaGreatPF34
import Derived.Test.YtjipleoamlmkfaaGreatPF33
import Derived.Test.YtjipleoamlmkfaaGreatPF24
import Derived.Test.YtjipleoamlmkfaaGreatPF17

set_option maxRecDepth 100000
set_option maxHeartbeats 8000000
set_option linter.unusedVariables false
set_option linter.unusedSimpArgs false
namespace Go.Proofs.YtjipleoamlmkfaaGreat
open Go.RowKit Go.Maps
structure PvIn where
 L:Va
 dd:Nat
 pub:Nat
 dg:Nat
 rows:List Ya
 ws:List Nat
 m:List (List Nat)
 crs:List (List Nat)
 l1:List Nat
 l2:List Nat
 l3:List Nat
 l4:List Nat
def PvIn.cols (x:PvIn):List (List Nat):=(List.range x.L.n).map fun i=>(List.range (x.m.length+3)).map (CA x.L (Ow x.L x.m x.crs x.l1 x.l2 x.l3) i)
def PvIn.pu (x:PvIn):List Nat:=(x.ws.drop 1).take x.pub
def PvIn.t1 (x:PvIn) (O:La):Tr:=ef O x.L x.dg x.pu
def PvIn.o2 (x:PvIn) (O:La):La:=ey x.dd (Nb (x.t1 O).O 16 (Qk x.cols x.l4)) (Ee (x.t1 O).O 16 (Qk x.cols x.l4))
def PvIn.tree (x:PvIn) (O:La):List (List Nat):=jq x.dd (Nb (x.t1 O).O 16 (Qk x.cols x.l4)) (Ee (x.t1 O).O 16 (Qk x.cols x.l4))
def PvIn.root (x:PvIn) (O:La):Nat:=su (x.tree O)
def PvIn.ch (x:PvIn) (O:La):ChR:=tk ⟨x.o2 O,(x.t1 O).st,0⟩ x.L.p (x.root O)
def PvIn.t2 (x:PvIn) (O:La):Tr:=ve ⟨x.o2 O,(x.t1 O).st,0⟩ (x.root O)
def PvIn.code (x:PvIn) (al:Nat):List Nat:=(List.range x.L.k).map (mW x.L.p x.L.k al (fun k=>x.l1.getD k 0) (Zu x.L x.m x.crs) x.m.length)
def PvIn.lin (x:PvIn) (rh:Nat):List Nat:=(List.range (x.L.k+x.L.block-1)).map (oW x.L.p (x.L.k+x.L.block-1) (fun k=>(Rk x.L x.l2).getD k 0) (Fy x.L (dt x.L x.pub rh x.rows) x.m x.crs) x.m.length)
def PvIn.quad (x:PvIn) (be:Nat):List Nat:=(List.range (2*x.L.k-1)).map (GV x.L.p x.L.k (2*x.L.k-1) be (uh x.L.p x.L.block x.l3 x.l3.length) (tA x.L x.m x.crs) (ZC x.L x.m x.crs) x.L.b)
def PvIn.all (x:PvIn) (O:La):List Nat:=x.code (x.ch O).al++x.lin (x.ch O).rh++x.quad (x.ch O).be
def PvIn.pos (x:PvIn) (O:La):List Nat:=Zr (x.t2 O) (x.all O) x.L.n x.L.queries
def PvIn.oF (x:PvIn) (O:La):La:=Li (x.t2 O) (x.all O) x.L.queries
def PvIn.pr (x:PvIn) (O:La):Ce:=⟨x.root O,x.code (x.ch O).al,x.lin (x.ch O).rh,x.quad (x.ch O).be,(x.pos O).map fun i=>x.cols.getD i [],(x.pos O).map fun i=>x.l4.getD i 0,(x.pos O).map fun i=>yj (x.tree O) i⟩
def ug (O Z:La):Prop:=∀ lab el a,Eo O lab el a -> Eo Z lab el a
theorem Uw {O Y Z:La} (h:ug O Y) (k:ug Y Z):ug O Z:=fun _ _ _ a=>k _ _ _ (h _ _ _ a)
theorem AF (O:La) (lab:Nat) (el:List Nat):ug O (jc O lab el):=fun _ _ _ h=>JG h lab el
theorem wK (O:La) (lab:Nat) (qs:List (List Nat)):ug O (Nb O lab qs):=fun _ _ _ h=>xL h lab qs
theorem dU:∀ (d:Nat) (O:La) (l:List Nat),ug O (ey d O l)
 | 0,_,_=>fun _ _ _ h=>h
 | d+1,O,l=>Uw (wK O 17 (ld l)) (dU d _ _)
theorem ZY {O Z:La} {lab:Nat} {el:List Nat} (h:ug (jc O lab el) Z):Kc Z lab el=Kc O lab el /\ jc Z lab el=Z:=by
 by_cases he:Sd el=true
 ·have:=yL (h _ _ _ (uN O lab he))
  exact ⟨this.2.1,this.1⟩
 ·constructor
  ·unfold Kc
   rw [if_neg he,if_neg he]
  ·unfold jc
   rw [if_neg he]
theorem XJ {lab:Nat}:∀ (qs:List (List Nat)) {O Z:La},ug (Nb O lab qs) Z -> Nb Z lab qs=Z
 | [],_,_,_=>rfl
 | q :: qs,O,Z,h=>by
  have h1:ug (jc O lab q) Z:=Uw (wK (jc O lab q) lab qs) h;show Nb (jc Z lab q) lab qs=Z
  rw [(ZY h1).2];exact XJ qs (O:=jc O lab q) h
theorem mF {O Z:La} {st ct tag:Nat} {l:List Nat} (h:ug (Zg ⟨O,st,ct⟩ tag l).O Z):Zg ⟨Z,st,ct⟩ tag l=⟨Z,(Zg ⟨O,st,ct⟩ tag l).st,0⟩:=by
 have:=ZY h;simp only [Zg] at *;rw [this.1,this.2]
theorem pF {O Z:La} {st ct:Nat} (h:ug (Ed ⟨O,st,ct⟩).O Z):Ed ⟨Z,st,ct⟩=⟨Z,st,ct+1⟩:=by
 have:=ZY h;simp only [Ed] at *;rw [this.2]
theorem iU (O:La) (st root:Nat):ug O (ve ⟨O,st,0⟩ root).O:=by
 have h:∀ s:Tr,ug s.O (Ed s).O:=fun s=>AF s.O 19 [s.st,s.ct]
 have h0:ug O (Zg ⟨O,st,0⟩ 2 [root]).O:=AF O 18 [st,2,root];unfold ve;exact Uw h0 (Uw (h _) (Uw (h _) (h _)))
theorem jU (s:Tr) (all:List Nat) (q:Nat):ug s.O (Li s all q):=by
 have h0:ug s.O (Zg s 3 all).O:=AF s.O 18 (s.st :: 3 :: all);unfold Li;exact Uw h0 (wK _ _ _)
theorem XR {O Z:La} {st root:Nat} (h:ug (ve ⟨O,st,0⟩ root).O Z):ve ⟨Z,st,0⟩ root=⟨Z,(ve ⟨O,st,0⟩ root).st,3⟩:=by
 obtain ⟨a,ha⟩:=zEX (Zg ⟨O,st,0⟩ 2 [root]);have hc:a.ct=0:=by rw [ha];rfl
 have e:ve ⟨O,st,0⟩ root=Ed (Ed (Ed a)):=by rw [ha];rfl
 rw [e] at h |-;have h2:ug (Ed (Ed a)).O Z:=Uw (AF _ _ _) h;have h1:ug (Ed a).O Z:=Uw (AF _ _ _) h2;have h0:ug a.O Z:=Uw (AF _ _ _) h1;show Ed (Ed (Ed (Zg ⟨Z,st,0⟩ 2 [root])))=_
 rw [mF (by rw [<- ha];exact h0),<- ha]
 have r1:Ed ⟨Z,a.st,0⟩=⟨Z,a.st,1⟩:=pF (O:=a.O) (by rw [<- hc];exact h1)
 have e1:(⟨(Ed a).O,a.st,1⟩:Tr)=Ed a:=by simp [Ed,hc]
 have r2:Ed ⟨Z,a.st,1⟩=⟨Z,a.st,2⟩:=pF (O:=(Ed a).O) (by rw [e1];exact h2)
 have e2:(⟨(Ed (Ed a)).O,a.st,2⟩:Tr)=Ed (Ed a):=by simp [Ed,hc]
 have r3:Ed ⟨Z,a.st,2⟩=⟨Z,a.st,3⟩:=pF (O:=(Ed (Ed a)).O) (by rw [e2];exact h)
 rw [r1,r2,r3]
 rfl
theorem YR {O Z:La} {st ct q:Nat} {all:List Nat} (h:ug (Li ⟨O,st,ct⟩ all q) Z):Li ⟨Z,st,ct⟩ all q=Z:=by
 have ha:ug (Zg ⟨O,st,ct⟩ 3 all).O Z:=Uw (wK _ _ _) h;unfold Li;rw [mF ha];exact XJ _ h
theorem eU:∀ (d:Nat) (O:La) (l:List Nat),rm O -> (∀ x∈l,x<Xa) -> ∀ r∈jq d O l,∀ x∈r,x<Xa
 | 0,_,l,_,hl=>fun r hr x hx=>by
  have e:r=l:=by simpa [jq] using hr
  subst e;exact hl x hx
 | d+1,O,l,hO,hl=>fun r hr x hx=>by
  rcases List.mem_cons.1 (show r∈l :: jq d (Nb O 17 (ld l)) (Ee O 17 (ld l)) from hr) with e | e
  ·subst e
   exact hl x hx
  ·exact eU d _ _ (EG hO 17 _) (IG hO 17 _) r e x hx
theorem BD {l:List Nat} (hl:∀ x∈l,x<Xa) (i:Nat):l.getD i 0<Xa:=by
 by_cases h:i<l.length
 ·exact hl _ (Bx 0 h)
 ·rw [List.getD_eq_getElem?_getD,List.getElem?_eq_none (by omega)]
  decide
theorem eK {ls:List (List Nat)} (h:∀ r∈ls,∀ x∈r,x<Xa) (k j:Nat):(ls.getD k []).getD j 0<Xa:=by
 by_cases hk:k<ls.length
 ·exact BD (h _ (Bx [] hk)) j
 ·have e:ls.getD k []=[]:=by rw [List.getD_eq_getElem?_getD,List.getElem?_eq_none (by omega)];rfl
  rw [e];show 0<Xa
  decide
theorem DQ {ls:List (List Nat)} (h:∀ r∈ls,∀ x∈r,x<Xa) (i:Nat):∀ x∈yj ls i,x<Xa:=by
 rw [IB];intro x hx;obtain ⟨k,_,rfl⟩:=List.mem_map.1 hx;exact eK h _ _
theorem cS {ls:List (List Nat)} (h:∀ r∈ls,∀ x∈r,x<Xa):su ls<Xa:=by
 unfold su;cases ls with
 | nil=>decide
 | cons a r =>
  refine BD (h _ ?_) 0;rw [List.getLastD_cons];cases r with
  | nil=>exact .head _
  | cons b q=>rw [List.getLastD_eq_getLast?,List.getLast?_eq_some_getLast (List.cons_ne_nil b q)];exact .tail _ (List.getLast_mem _)
theorem cU:∀ (d:Nat) {O:La} {k:Nat} (l:List Nat),l.length=2^d -> Qc O k -> Qc (ey d O l) (k+2^d)
 | 0,_,_,_,_,h=>Ih h (by omega)
 | d+1,O,k,l,hl,h=>by
  have e:l.length / 2=2^d:=by rw [hl,Nat.pow_succ];omega
  have h1:=Ox (lab:=17) (ld l) h;rw [CI,e] at h1;refine Ih (cU d (Ee O 17 (ld l)) (by rw [Dw,CI,e]) h1) ?_
  rw [Nat.pow_succ];omega
theorem gU {p:Nat} (h:Db p=true):p <= Xa:=by
 rcases Hw h with rfl | rfl | rfl | rfl | rfl | rfl | rfl <;> decide
theorem WR {O Z:La} {L:Va} {dg:Nat} {l:List Nat} (h:ug (ef O L dg l).O Z):ef Z L dg l=⟨Z,(ef O L dg l).st,0⟩:=mF h
theorem zS (O:La) (st root:Nat):(ve ⟨O,st,0⟩ root).ct=3:=rfl
theorem VR {Z:La} {s:Tr} {all:List Nat} {q:Nat} (hc:s.ct=3) (h:ug (Li s all q) Z):Li ⟨Z,s.st,3⟩ all q=Z:=by
 cases s
 simp only at hc;subst hc;exact YR h
theorem eL {O O2 Z:La} {L:Va} {dg root q:Nat} {l all:List Nat} (h1:ug (ef O L dg l).O Z) (h2:ug (ve ⟨O2,(ef O L dg l).st,0⟩ root).O Z) (h3:ug (Li (ve ⟨O2,(ef O L dg l).st,0⟩ root) all q) Z) :
  Li (ve (ef Z L dg l) root) all q=Z:=by
 rw [WR h1,XR h2];exact VR (zS _ _ _) h3
section
variable (x:PvIn) (O:La)
theorem PvIn.cols_len:x.cols.length=x.L.n:=by simp [PvIn.cols]
theorem PvIn.cols_row (l:List Nat) (h:l∈x.cols):l.length=x.m.length+3:=by
 obtain ⟨i,-,rfl⟩:=List.mem_map.1 h;simp
theorem PvIn.cols_els (hp:Db x.L.p=true):∀ l∈x.cols,Sd l=true:=fun l h=>by
 obtain ⟨i,-,rfl⟩:=List.mem_map.1 h;unfold Sd;rw [List.all_eq_true];intro y hy;obtain ⟨j,-,rfl⟩:=List.mem_map.1 hy;have h1:=DM (p:=x.L.p) (by have:=nc hp;omega) x.L.n x.L.n.log2 ((Ow x.L x.m x.crs x.l1 x.l2 x.l3).getD j []) (Yc x.L.p).1 i
 have h2:=gU hp;exact decide_eq_true (show CA _ _ _ _<Xa from Nat.lt_of_lt_of_le h1 h2)
theorem PvIn.sub1:ug (x.t1 O).O (x.o2 O):=Uw (wK _ _ _) (dU _ _ _)
theorem PvIn.sub2:ug (x.o2 O) (x.t2 O).O:=iU _ _ _
theorem PvIn.sub3:ug (x.t2 O).O (x.oF O):=jU _ _ _
theorem PvIn.again:Li (ve (ef (x.oF O) x.L x.dg x.pu) (x.root O)) (x.all O) x.L.queries=x.oF O :=
 eL (O:=O) (O2:=x.o2 O) (Uw (x.sub1 O) (Uw (x.sub2 O) (x.sub3 O))) (x.sub3 O) fun _ _ _ h=>h
theorem PvIn.code_lt (hp:0<x.L.p) (h:∀ y∈x.l1,y<x.L.p) (al:Nat):∀ y∈x.code al,y<x.L.p:=fun y hy=>by
 obtain ⟨k,-,rfl⟩:=List.mem_map.1 hy;exact DJ hp (fun k=>GH hp h k) _ _
theorem PvIn.lin_lt (hp:0<x.L.p) (h:∀ y∈x.l2,y<x.L.p) (rh:Nat):∀ y∈x.lin rh,y<x.L.p:=fun y hy=>by
 obtain ⟨k,-,rfl⟩:=List.mem_map.1 hy;refine JJ hp (fun k=>?_) _ _
 cases k with
 | zero=>exact GI hp _ _
 | succ k=>exact GH hp h k
theorem PvIn.quad_lt (hp:0<x.L.p) (be:Nat):∀ y∈x.quad be,y<x.L.p:=fun y hy=>by
 obtain ⟨k,-,rfl⟩:=List.mem_map.1 hy;exact PJ hp (fun k=>dC hp _ _ _) _ _
theorem PvIn.tree_lt (h:rm (x.t1 O).O):∀ r∈x.tree O,∀ y∈r,y<Xa:=eU _ _ _ (EG h 16 _) (IG h 16 _)
theorem PvIn.o2_le {k:Nat} (hn:x.L.n=2^x.dd) (h:Qc (x.t1 O).O k):Qc (x.o2 O) (k+2*x.L.n):=by
 have h1:=Ox (lab:=16) (Qk x.cols x.l4) h;rw [yE,x.cols_len] at h1;have h2:=cU x.dd (Ee (x.t1 O).O 16 (Qk x.cols x.l4)) (by rw [Dw,yE,x.cols_len,hn]) h1
 rw [<- hn] at h2;exact Ih h2 (by omega)
end
end Go.Proofs.YtjipleoamlmkfaaGreat
namespace Go.Proofs.YtjipleoamlmkfaaGreat
open Go.RowKit
theorem dR {w w7 w16 wr wf:World} {F F4:Nat -> Prop} {gP N R:Nat} (hb:Below w.heap.size w w7) (hF:∀ j,F j -> j<w.heap.size) (m:Moved F F4 w7 w16) (hN5:N <= w16.heap.size) (Gk:w16.heap.size <= N) (hgP:w7.heap.size <= gP) (hgN:gP<N) (hR:w.heap.size <= R) (hR7:R<w7.heap.size)
  (tb:mi gP N w16 wr) (ff:N <= wr.heap.size) (Wv:∀ j,j≠R -> wf.heap[j]?=wr.heap[j]?) (hfs:wf.heap.size=wr.heap.size) (ho:wf.os=wr.os /\ wf.tape=wr.tape /\ wf.output=wr.output) (h16:∀ j,F4 j -> j<w16.heap.size) (nP4:¬F4 gP) :
  (∀ j,F4 j -> wf.heap[j]?=w16.heap[j]?) /\ w16.heap.size <= wf.heap.size /\ Moved F F4 w wf /\ ∀ u,Vf (fun b=>w.heap.size <= b /\ b<wf.heap.size /\ ¬F4 b) wf u ->
   (∀ j,w.heap.size <= j -> j<N -> j≠gP -> j≠R -> ¬F4 j -> u.heap[j]?=w16.heap[j]?) /\ (∀ j,N <= j -> j<wr.heap.size -> u.heap[j]?=wr.heap[j]?) /\ (∀ j,R<j -> j<w7.heap.size -> u.heap[j]?=w7.heap[j]?) /\ w7.heap.size <= u.heap.size:=by
 have s1:=hb.size;have s2:=m.size;have hA:∀ j,j<N -> j≠gP -> j≠R -> wf.heap[j]?=w16.heap[j]?:=fun j h1 h2 h3=>(Wv j h3).trans (tb.2.2.2.2 j h1 h2)
 have hB7:∀ j,j<w7.heap.size -> ¬F j -> j≠R -> wf.heap[j]?=w7.heap[j]?:=fun j h1 h2 h3=>(hA j (by omega) (by omega) h3).trans (m.block j h1 h2)
 refine ⟨fun j hj=>hA j (by have:=h16 j hj;omega) (fun e=>nP4 (e ▸ hj)) (fun e=>?_),by omega,⟨ho.1.trans (tb.1.trans (m.os.trans hb.os)),ho.2.1.trans (tb.2.1.trans (m.tape.trans hb.tape)),ho.2.2.trans (tb.2.2.1.trans (m.output.trans hb.output)),by omega,fun j h1 h2=>(hB7 j (by omega) h2 (by omega)).trans (hb.block j h1),fun j hj=>(m.foot j hj).imp id fun h=>by omega⟩,fun u a=>⟨fun j h1 h2 h3 h4 h5=>(a.block j ⟨h1,by omega,h5⟩ (by omega)).trans (hA j h2 h3 h4),fun j h1 h2=>(a.block j ⟨by omega,by omega,fun e=>by have:=h16 j e;omega⟩ (by omega)).trans (Wv j (by omega)),fun j h1 h2=>?_,by have:=a.size;omega⟩⟩
 ·rcases m.foot j hj with h | h
  ·have:=hF j h;omega
  ·omega
 ·refine (a.block j ⟨by omega,by omega,fun e=>?_⟩ (by omega)).trans (hB7 j h2 (fun e=>by have:=hF j e;omega) (by omega))
  rcases m.foot j e with h | h
  ·have:=hF j h;omega
  ·omega
theorem MO {i Q:Nat} (h:i<Q):Q-(intOf (.int .i64 ((i+1:Nat):Int))).toNat<Q-(intOf (.int .i64 i)).toNat:=by
 simp only [intOf,Int.toNat_natCast];omega
theorem oK (g:Nat):∀ (xs:List Value) (k:Nat) (w:World),(ng w g xs k).heap.size=w.heap.size /\ (ng w g xs k).os=w.os /\ (ng w g xs k).tape=w.tape /\ (ng w g xs k).output=w.output
 | [],_,_=>⟨rfl,rfl,rfl,rfl⟩
 | x :: xs,k,w=>by
  have h:=oK g xs (k+1) (w.setCell ⟨g,k,none⟩ x);exact ⟨h.1.trans (by simp [World.setCell]),h.2.1.trans rfl,h.2.2.1.trans rfl,h.2.2.2.trans rfl⟩
theorem TS {w:World} {g:Nat} {t:TypeId} {y0 y1 y2 y3 y4 y5 y6:Value} (k:Blk w g t #[y0,y1,y2,y3,y4,y5,y6]) (x0 x1 x2 x3 x4 x5 x6:Value):∃ wf,(((((((w.setCell ⟨g,0,none⟩ x0).setCell ⟨g,1,none⟩ x1).setCell ⟨g,2,none⟩ x2).setCell ⟨g,3,none⟩ x3).setCell ⟨g,4,none⟩ x4).setCell ⟨g,5,none⟩ x5).setCell ⟨g,6,none⟩ x6)=wf /\ Blk wf g t #[x0,x1,x2,x3,x4,x5,x6] /\ (∀ j,j≠g -> wf.heap[j]?=w.heap[j]?) /\ wf.heap.size=w.heap.size /\ wf.os=w.os /\ wf.tape=w.tape /\ wf.output=w.output :=
 ⟨_,rfl,Sw [x0,x1,x2,x3,x4,x5,x6] k rfl,fun _ hj=>Xr (fun e=>hj e) [x0,x1,x2,x3,x4,x5,x6] 0 w,oK g [x0,x1,x2,x3,x4,x5,x6] 0 w⟩
theorem eR {w7 w16 wr u:World} {F4:Nat -> Prop} {gP N R B0 B6 B13 B15 i k1 k2 k3:Nat} {x:PvIn} {O:La} {cd ln qd pos:List Nat} {tr:List (List Nat)} {P1 P2 P3 Ac As Ap:Option Addr} {p1 p2 p3 ca cs cp:Nat} {xs:Nat -> Value} {nn:Nat -> Nat} {vs:Nat -> List Value}
  (hU:∀ j,B0 <= j -> j<N -> j≠gP -> j≠R -> ¬F4 j -> u.heap[j]?=w16.heap[j]?) (hV:∀ j,N <= j -> j<wr.heap.size -> u.heap[j]?=wr.heap[j]?) (hW:∀ j,R<j -> j<w7.heap.size -> u.heap[j]?=w7.heap[j]?) (hus:w7.heap.size <= u.heap.size)
  (b0:B0 <= B13) (b1:R<B13) (b2:gP<B13) (b3:B15 <= N) (b4:R<B6) (b5:B6 <= w7.heap.size) (b6:w7.heap.size <= N) (n1:∀ b,B13 <= b -> b<B15 -> ¬F4 b)
  (o1:w16.ownsRow B13 22 1 (.slice P1 k1 p1) k1 (Ca cd)) (o2:w16.ownsRow B13 22 1 (.slice P2 k2 p2) k2 (Ca ln)) (o3:w16.ownsRow B13 22 1 (.slice P3 k3 p3) k3 (Ca qd))
  (l1:(∀ b,(Value.slice P1 k1 p1).ownBlock=some b -> B13 <= b /\ b<B15) /\ (∀ b,(Value.slice P2 k2 p2).ownBlock=some b -> B13 <= b /\ b<B15) /\ ∀ b,(Value.slice P3 k3 p3).ownBlock=some b -> B13 <= b /\ b<B15)
  (c1:∀ y∈cd,y<18446744073709551616) (c2:∀ y∈ln,y<18446744073709551616) (c3:∀ y∈qd,y<18446744073709551616) (Ov:cd=x.code (x.ch O).al) (Bf:ln=x.lin (x.ch O).rh) (hqd:qd=x.quad (x.ch O).be)
  (Rb:OwnF N wr (i+3) tyF xs nn vs) (Pb:InvP pos x.cols x.l4 (fun z=>yj tr z) x.dd B6 w7 i xs nn vs) (Wh:pos.length=i) (ur:pos=x.pos O) (zp:tr=x.tree O) (e0:xs 0= .slice Ac i ca) (e1:xs 1= .slice As i cs) (e2:xs 2= .slice Ap i cp)
  (fB:x.root O<Xa) (hsa:Sd x.l4=true) (Wt:∀ r∈x.tree O,∀ y∈r,y<Xa) :
  Xg u (x.pr O) ⟨P1,k1,p1,P2,k2,p2,P3,k3,p3,Ac,i,ca,As,i,cs,Ap,i,cp⟩:=by
 have XD:OwnF N u (i+3) tyF xs nn vs:=⟨fun j hj=>zg (Rb.own j hj) fun b hb=>hV b ((Rb.own j hj).lt b hb).1 ((Rb.own j hj).lt b hb).2,Rb.apart⟩
 have htk:pos.take i=pos:=List.take_of_length_le (by omega)
 refine ⟨Ti fB,?_,?_,?_,?_,?_,?_⟩
 ·show RWd u [.slice P1 k1 p1] (x.code (x.ch O).al)
  rw [<- Ov];exact Fh (zg o1 fun b hb=>by have h1:=l1.1 b hb;exact hU b (by omega) (by omega) (by omega) (by omega) (n1 b h1.1 h1.2)) c1
 ·show RWd u [.slice P2 k2 p2] (x.lin (x.ch O).rh)
  rw [<- Bf];exact Fh (zg o2 fun b hb=>by have h1:=l1.2.1 b hb;exact hU b (by omega) (by omega) (by omega) (by omega) (n1 b h1.1 h1.2)) c2
 ·show RWd u [.slice P3 k3 p3] (x.quad (x.ch O).be)
  rw [<- hqd];exact Fh (zg o3 fun b hb=>by have h1:=l1.2.2 b hb;exact hU b (by omega) (by omega) (by omega) (by omega) (n1 b h1.1 h1.2)) c3
 ·show RSl 1 RWd u [.slice Ac i ca] ((x.pos O).map fun k=>x.cols.getD k [])
  rw [<- ur,<- e0];have hc:=Pb.c;rw [htk] at hc;exact (vP hc hus (fun b h1 h2=>hW b (by omega) h2) (XD.own 0 (by omega)) b6 b5).here
 ·show RWd u [.slice As i cs] ((x.pos O).map fun k=>x.l4.getD k 0)
  rw [<- ur];have ho:=XD.own 1 (by omega)
  have hs:=Pb.s;rw [htk] at hs;rw [e1,Pb.n1,hs] at ho;exact Fh ho fun y hy=>by
   obtain ⟨k,-,rfl⟩:=List.mem_map.1 hy;exact Ti (BD (fun y hy=>of_decide_eq_true (List.all_eq_true.1 hsa y hy)) k)
 ·show RSl 1 RWd u [.slice Ap i cp] ((x.pos O).map fun k=>yj (x.tree O) k)
  rw [<- ur,<- zp,<- e2];exact FQ (pf:=fun z=>yj tr z) XD Pb.p Pb.r Wh fun z y hy=>Ti (DQ (by rw [zp];exact Wt) z y hy)
end Go.Proofs.YtjipleoamlmkfaaGreat
namespace Go.Proofs.YtjipleoamlmkfaaGreat
def Ip (L:Va) (m r:List (List Nat)):List (List Nat):=(List.range m.length).map (S7 L m r)
def RV (L:Va) (m r:List (List Nat)) (co:List Nat) (al:Nat):List Nat:=FV (XB L.p co (rP L.p (Ip L m r) al m.length)) L.k
def mV (L:Va) (cs m r:List (List Nat)) (li:List Nat):List Nat:=FV (XB L.p (Rk L li) (IP L.p (Ip L m r) (aQ L.p cs) m.length)) (L.k+L.block-1)
def nV (L:Va) (m r:List (List Nat)) (qu:List Nat) (be:Nat):List Nat:=FV (XB L.p (YU L qu) (zC L.p L.a L.b (Ip L m r) be L.b)) (2*L.k-1)
structure tU (L:Va) (m r:List (List Nat)):Prop where
 ml:m.length=L.a+L.b+L.b+L.b
 rl:r.length=m.length
 mr:∀ x∈m,x.length=L.block
 rr:∀ x∈r,x.length=L.queries
theorem PX {l:List (List Nat)} {P:List Nat -> Prop} (h:∀ x∈l,P x) {i:Nat} (hi:i<l.length):P (l.getD i []):=by
 rw [TV hi];exact h _ (List.getElem_mem hi)
theorem rX {L:Va} (hL:Vc L) {m r:List (List Nat)} (h:tU L m r) {i:Nat} (hi:i<m.length):(Ip L m r).getD i []=sA L m r i:=by
 have e:(Ip L m r).getD i []=S7 L m r i:=by
  rw [Ip,List.getD_eq_getElem?_getD,List.getElem?_map,List.getElem?_range hi]
  rfl
 have h1:=PX h.mr hi;have h2:=PX h.rr (show i<r.length by rw [h.rl];exact hi)
 rw [e,S7,zDg hL h1 h2,jW,h2,<- hL.k]
 rfl
theorem zAL (L:Va) (m r:List (List Nat)):(Ip L m r).length=m.length:=by simp [Ip]
theorem R7 {L:Va} (hL:Vc L) {m r:List (List Nat)} (h:tU L m r):∀ x∈Ip L m r,x.length=L.k:=fun x hx=>by
 obtain ⟨i,hi,rfl⟩:=List.getElem_of_mem hx;rw [zAL] at hi;have e:=rX hL h hi;rw [TV (by rw [zAL];exact hi)] at e
 rw [e];simp [sA]
theorem zAR (p a b c:Nat):((a+b)%p+c%p)%p=(a+(b+c%p)%p)%p:=by
 rw [Nat.mod_add_mod,Nat.add_mod_mod a,Nat.add_assoc]
theorem I1 {p s t k:Nat} {F G:Nat -> Nat} (h:k<t):Dk p s F G t k=(F k+s*G k%p)%p:=by
 unfold Dk uf;rw [if_pos h]
theorem zBj {p s t k:Nat} {F G:Nat -> Nat} (h:¬k<t):Dk p s F G t k=F k:=by
 unfold Dk uf;rw [if_neg h]
theorem R8 {L:Va} (hL:Vc L) {m r:List (List Nat)} (h:tU L m r) {co:List Nat} (hc:co.length=L.k) (oa:∀ y∈co,y<L.p) (al:Nat) :
  (List.range L.k).map (mW L.p L.k al (fun k=>co.getD k 0) (Zu L m r) m.length)=RV L m r co al:=by
 have hp:=nc hL.p;have hl:(RV L m r co al).length=L.k:=by
  rw [RV,uZ];have h1:=lV L.p co (rP L.p (Ip L m r) al m.length);have h2:=p6 (p:=L.p) (al:=al) (fun x hx=>Nat.le_of_eq (R7 hL h x hx)) m.length
  omega
 refine DE (by rw [hl];simp) fun k hk=>?_
 simp at hk
 rw [fF,if_pos hk,RV,tZ,vU];have key:∀ i,i <= m.length -> mW L.p L.k al (fun k=>co.getD k 0) (Zu L m r) i k=(co.getD k 0+(rP L.p (Ip L m r) al i).getD k 0)%L.p:=fun i=>by
  induction i with
  | zero =>
   intro _;rw [mW,rP];exact (Nat.mod_eq_of_lt (by simpa using GH (by omega) oa k)).symm
  | succ i ih =>
   intro hi;rw [mW,I1 hk,ih (by omega),rP,vU,aZ,rX hL h (by omega),sA,fF,if_pos hk,Nat.mul_comm (Pw L.p al (i+1)),zAR]
 exact key _ zR
theorem zBg {L:Va} (hL:Vc L) {cs:List (List Nat)} (lq:∀ x∈cs,x.length=L.block) {i:Nat} (hi:i<cs.length):(aQ L.p cs).getD i []=(List.range L.block).map (Bn L.p L.block L.block.log2 (cs.getD i [])):=by
 obtain ⟨hlen,j,hj⟩:=sI hL;have bW:L.block.log2=j:=by rw [hj];exact Nat.log2_two_pow
 have h1:=PX lq hi;have e:(aQ L.p cs).getD i []=wtF L.p cs i:=by
  rw [aQ,List.getD_eq_getElem?_getD,List.getElem?_map,List.getElem?_range hi]
  rfl
 rw [e,wtF,h1];refine List.map_congr_left fun k hk=>?_
 have hk':=List.mem_range.1 hk;rw [Q9 (j:=j) _ hL.p (by rw [h1];exact hlen) (by rw [h1];exact hj) (by omega),h1,bW]
theorem H7 {p:Nat} (hp:0<p) (a b:List Nat) (k:Nat):(Ou p a b).getD k 0<p:=GH hp (fun _ h=>zCr hp h) k
theorem zBn {L:Va} (hL:Vc L) {cs m r:List (List Nat)} (h:tU L m r) (lq:∀ x∈cs,x.length=L.block) (Tq:cs.length=m.length) {i k:Nat} (hi:i<m.length) (hk:k<L.k+L.block-1) :
  Fy L cs m r i k=(Ou L.p ((aQ L.p cs).getD i []) ((Ip L m r).getD i [])).getD k 0:=by
 have hp:=nc hL.p;have ya:=hL.b1;have Xo:=hL.k;have EN:=hL.nk;have Yj:=hL.q1;have h2:2 <= L.k+L.block-1:=by omega
 obtain ⟨hM,-⟩:=ZI hL h2 (by omega)
 obtain ⟨e,hle,-⟩:=tD h2;rw [zBg hL lq (by omega),rX hL h hi]
 unfold Fy;refine Cg.eq (p:=L.p) (zAc hL.p hM e _ _ (by simp;omega) (by simp [sA];omega) k (by omega)) (zAd (by omega) _ _ _) (H7 (by omega) _ _ _)
theorem W9 {L:Va} (hL:Vc L) {cs m r:List (List Nat)} (h:tU L m r) (lq:∀ x∈cs,x.length=L.block) (Tq:cs.length=m.length) {li:List Nat} (hl:li.length=L.k+L.block-2) (oa:∀ y∈li,y<L.p) :
  (List.range (L.k+L.block-1)).map (oW L.p (L.k+L.block-1) (fun k=>(Rk L li).getD k 0) (Fy L cs m r) m.length)=mV L cs m r li:=by
 have hp:=nc hL.p;have ya:=hL.b1;have Xo:=hL.k;have Yj:=hL.q1;have Bh:(Rk L li).length=L.k+L.block-1:=by rw [Rk,List.length_cons];omega
 have hmlt:∀ k,(Rk L li).getD k 0<L.p:=fun k=>by
  cases k with
  | zero=>exact GI (by omega) _ _
  | succ k=>exact GH (by omega) oa k
 have DV:∀ x∈aQ L.p cs,x.length <= L.block:=fun x hx=>by
  obtain ⟨i,hi,rfl⟩:=List.mem_map.1 hx;rw [wtF,List.length_map,List.length_range,PX lq (List.mem_range.1 hi)];exact zR
 have Bf:(mV L cs m r li).length=L.k+L.block-1:=by
  rw [mV,uZ];have h1:=lV L.p (Rk L li) (IP L.p (Ip L m r) (aQ L.p cs) m.length);have h2:=C7 (p:=L.p) (fun x hx=>Nat.le_of_eq (R7 hL h x hx)) DV m.length
  omega
 refine DE (by rw [Bf];simp) fun k hk=>?_
 simp at hk
 rw [fF,if_pos (by omega),mV,tZ,vU]
 have key:∀ i,i <= m.length -> oW L.p (L.k+L.block-1) (fun k=>(Rk L li).getD k 0) (Fy L cs m r) i k=((Rk L li).getD k 0+(IP L.p (Ip L m r) (aQ L.p cs) i).getD k 0)%L.p:=fun i=>by
  induction i with
  | zero =>
   intro _;rw [oW,IP];exact (Nat.mod_eq_of_lt (by simpa using hmlt k)).symm
  | succ i ih =>
   intro hi;rw [oW,I1 (by omega),ih (by omega),IP,vU,zBn hL h lq Tq (by omega) (by omega),Nat.one_mul,zAR]
   rw [Nat.mod_eq_of_lt (H7 (p:=L.p) (by omega) _ _ _)]
 exact key _ zR
theorem zBo {L:Va} (hL:Vc L) {m r:List (List Nat)} (h:tU L m r) {j k:Nat} (hj:j<L.b) (hk:k<2*L.k-1) :
  tA L m r j k=(Ou L.p ((Ip L m r).getD (L.a+j) []) ((Ip L m r).getD (L.a+L.b+j) [])).getD k 0:=by
 have hp:=nc hL.p;have ya:=hL.b1;have Xo:=hL.k;have EN:=hL.nk;have Yj:=hL.q1;have Bh:=h.ml;have h2:2 <= 2*L.k-1:=by omega
 obtain ⟨hM,-⟩:=ZI hL h2 (by omega)
 obtain ⟨e,hle,-⟩:=tD h2;rw [rX hL h (by omega),rX hL h (by omega)]
 unfold tA;refine Cg.eq (p:=L.p) (zAc hL.p hM e _ _ (by simp [sA];omega) (by simp [sA];omega) k (by omega)) (zAd (by omega) _ _ _) (H7 (by omega) _ _ _)
theorem LZ {p:Nat} (a b:Nat):Cg p ((a*b%p:Nat):Int) ((a:Int)*(b:Int)):=(Cg.mod _).trans (Cg.of_eq (Int.natCast_mul _ _))
theorem nY {p:Nat} (a b:Nat):Cg p (((a+b)%p:Nat):Int) ((a:Int)+(b:Int)):=(Cg.mod _).trans (Cg.of_eq (Int.natCast_add _ _))
theorem gap_cg {p:Nat} (hp:1<p) (a b:List Nat) (k:Nat):Cg p ((ZU p a b).getD k 0:Int) ((a.getD k 0:Int)-(b.getD k 0:Int)):=by
 rw [ZU,vU,aZ];refine (nY _ _).trans ?_;have h1:=(LZ (p:=p) (b.getD k 0) (xg p 1)).trans (Cg.rfl'.mul (mX p 1 (by omega)))
 refine (Cg.rfl'.add h1).trans (Cg.of_eq ?_);have:(((1:Nat):Int))=1:=rfl;rw [this,Int.mul_neg,Int.mul_one]
 rfl
theorem zAu {L:Va} (hL:Vc L) {m r:List (List Nat)} (h:tU L m r) {qu:List Nat} (hq:qu.length=L.block+2*L.queries-1) (be:Nat) :
  (List.range (2*L.k-1)).map (GV L.p L.k (2*L.k-1) be (uh L.p L.block qu qu.length) (tA L m r) (ZC L m r) L.b)=nV L m r qu be:=by
 have hp:=nc hL.p;have ya:=hL.b1;have Xo:=hL.k;have Yj:=hL.q1;have Bh:=h.ml;have hql:(YU L qu).length=2*L.k-1:=by rw [Y4 hL hq,qX,List.length_map,List.length_range];omega
 have Bf:(nV L m r qu be).length=2*L.k-1:=by
  rw [nV,uZ];have h1:=lV L.p (YU L qu) (zC L.p L.a L.b (Ip L m r) be L.b);have h2:=M7 (p:=L.p) (a:=L.a) (b:=L.b) (be:=be) (fun x hx=>Nat.le_of_eq (R7 hL h x hx)) L.b
  omega
 refine DE (by rw [Bf];simp) fun k hk=>?_
 simp at hk
 rw [fF,if_pos hk,nV,tZ,vU];have key:∀ j,j <= L.b -> Cg L.p (GV L.p L.k (2*L.k-1) be (uh L.p L.block qu qu.length) (tA L m r) (ZC L m r) j k:Int) (((YU L qu).getD k 0:Int)+((zC L.p L.a L.b (Ip L m r) be j).getD k 0:Int)):=fun j=>by
  induction j with
  | zero =>
   intro _;rw [GV,zC,Y4 hL hq,qX,fF,if_pos (by omega)]
   exact Cg.of_eq (by simp)
  | succ j ih =>
   intro hj;have ih:=ih (by omega)
   have hz:ZC L m r j k=if k<L.k then ((Ip L m r).getD (L.a+L.b+L.b+j) []).getD k 0 else ZC L m r j k:=by
    split
    ·rename_i hkL
     rw [rX hL h (by omega),sA,fF,if_pos hkL]
     rfl
    ·rfl
   obtain ⟨F,hF⟩:=zEX (GV L.p L.k (2*L.k-1) be (uh L.p L.block qu qu.length) (tA L m r) (ZC L m r) j);obtain ⟨P,hP⟩:=zEX (Pw L.p be (j+1));rw [<- hF] at ih;rw [GV,zC,vU,aZ,<- hF,<- hP,rY];have hG:=gap_cg (p:=L.p) (by omega) (Ou L.p ((Ip L m r).getD (L.a+j) []) ((Ip L m r).getD (L.a+L.b+j) [])) ((Ip L m r).getD (L.a+L.b+L.b+j) []) k
   rw [<- zBo hL h (by omega) hk] at hG
   generalize ((ZU L.p (Ou L.p ((Ip L m r).getD (L.a+j) []) ((Ip L m r).getD (L.a+L.b+j) [])) ((Ip L m r).getD (L.a+L.b+L.b+j) [])).getD k 0)=G at hG |-;have hR:Cg L.p ((((YU L qu).getD k 0:Nat):Int)+((((zC L.p L.a L.b (Ip L m r) be j).getD k 0+G*P%L.p)%L.p:Nat):Int)) ((((YU L qu).getD k 0:Nat):Int)+(((zC L.p L.a L.b (Ip L m r) be j).getD k 0:Nat):Int)+(G:Int)*(P:Int)):=by
    refine (Cg.rfl'.add ((nY _ _).trans (Cg.rfl'.add (LZ _ _)))).trans (Cg.of_eq ?_);omega
   refine Cg.trans ?_ hR.symm;have h1:Cg L.p ((Dk L.p P F (tA L m r j) (2*L.k-1) k:Nat):Int) ((F k:Int)+(P:Int)*(tA L m r j k:Int)):=by
    rw [I1 hk];exact (nY _ _).trans (Cg.rfl'.add (LZ _ _))
   by_cases hkL:k<L.k
   ·rw [if_pos hkL] at hz
    rw [I1 hkL];refine (nY _ _).trans ?_;refine (h1.add ((LZ _ _).trans ((mX L.p P (by omega)).mul Cg.rfl'))).trans ?_
    rw [hz];refine ((ih.add Cg.rfl').add Cg.rfl').trans ?_;refine Cg.trans (Cg.of_eq ?_) (Cg.rfl'.add (hG.mul Cg.rfl').symm)
    grind
   ·rw [zBj hkL]
    refine h1.trans ?_;have Ff:((Ip L m r).getD (L.a+L.b+L.b+j) []).getD k 0=0:=OX (by rw [rX hL h (by omega)];simp [sA];omega)
    rw [Ff] at hG;refine (ih.add Cg.rfl').trans ?_;refine Cg.trans (Cg.of_eq ?_) (Cg.rfl'.add (hG.mul Cg.rfl').symm)
    grind
 refine Cg.eq (p:=L.p) ((key _ zR).trans ?_) (PJ (by omega) (fun k=>dC (by omega) _ _ _) _ _) (Nat.mod_lt _ (by omega))
 exact (nY _ _).symm
theorem K8 {L:Va} (hL:Vc L) {cs m r:List (List Nat)} (h:tU L m r) (lq:∀ x∈cs,x.length=L.block) (Tq:cs.length=m.length) {co li qu:List Nat} (hc:co.length=L.k /\ ∀ y∈co,y<L.p) (hl:li.length=L.k+L.block-2 /\ ∀ y∈li,y<L.p) (hq:qu.length=L.block+2*L.queries-1) (al be:Nat) :
  wU L (RV L m r co al) (mV L cs m r li) (nV L m r qu be)=true:=by
 have hp:=nc hL.p;rw [<- R8 hL h hc.1 hc.2,<- W9 hL h lq Tq hl.1 hl.2,<- zAu hL h hq];unfold wU;simp only [List.length_map,List.length_range,decide_true,Bool.true_and,Bool.and_eq_true,List.all_eq_true,decide_eq_true_eq,List.mem_map,List.mem_range];refine ⟨⟨?_,?_⟩,?_⟩
 ·rintro x ⟨k,-,rfl⟩
  exact DJ (by omega) (fun k=>GH (by omega) hc.2 k) _ _
 ·rintro x ⟨k,-,rfl⟩
  refine JJ (by omega) (fun k=>?_) _ _
  cases k with
  | zero=>exact GI (by omega) _ _
  | succ k=>exact GH (by omega) hl.2 k
 ·rintro x ⟨k,-,rfl⟩
  exact PJ (by omega) (fun k=>dC (by omega) _ _ _) _ _
end Go.Proofs.YtjipleoamlmkfaaGreat
namespace Go.Proofs.YtjipleoamlmkfaaGreat
def Pu (f:Nat -> Nat) (n:Nat):List (List Nat):=(List.range n).map fun k=>[f k]
def bY (p a b:Nat):Nat:=(a+xg p b)%p
def IX (L:Va) (cs:List (List Nat)) (al be:Nat) (a b c:List Nat) (x:Nat) (v:List Nat):List Nat :=
 [bY L.p (oh L.p a x) (oh L.p (rP L.p (Pu (fun k=>v.getD k 0) v.length) al v.length) 0),
  bY L.p (oh L.p b x) (oh L.p (IP L.p (Pu (fun k=>v.getD k 0) v.length) (Pu (fun k=>oh L.p ((aQ L.p cs).getD k []) x) v.length) v.length) 0),
  bY L.p (oh L.p c x) (oh L.p (zC L.p L.a L.b (Pu (fun k=>v.getD k 0) v.length) be L.b) 0)]
theorem xZ {f:Nat -> Nat} {n k:Nat} (h:k<n):(Pu f n).getD k []=[f k]:=by
 rw [Pu,List.getD_eq_getElem?_getD,List.getElem?_map,List.getElem?_range h]
 rfl
theorem jZ (v:Nat) (x:Int):bg [v] x=(v:Int):=by
 show 0+(v:Int)*x^0=_
 rw [Int.pow_zero];omega
theorem zDu {p:Nat} (hp:0<p) (a b:Nat):Cg p (bY p a b:Int) ((a:Int)-(b:Int)) :=
 (nY _ _).trans ((Cg.rfl'.add (mX p b hp)).trans (Cg.of_eq (by omega)))
theorem zBK {p:Nat} (hp:1<p) (a b:List Nat) (x:Int):Cg p (bg (ZU p a b) x) (bg a x-bg b x):=by
 unfold ZU;refine (JX a _ x).trans ((Cg.rfl'.add ((Z2 b _ x).trans ((mX p 1 (by omega)).mul Cg.rfl'))).trans (Cg.of_eq ?_))
 rw [show (((1:Nat):Int))=1 from rfl,Int.neg_mul,Int.one_mul]
 omega
theorem Z5 {p:Nat} (rows:List (List Nat)) (al:Nat) (x:Int):∀ i,Cg p (bg (rP p rows al i) x) (Sb (fun j=>(Pw p al (j+1):Int)*bg (rows.getD j []) x) i)
 | 0=>Cg.rfl'
 | i+1=>by
  rw [rP,Sb];exact (JX _ _ x).trans ((Z5 rows al x i).add (Z2 _ _ x))
theorem B7 {p:Nat} (rows ws:List (List Nat)) (x:Int):∀ i,Cg p (bg (IP p rows ws i) x) (Sb (fun j=>bg (ws.getD j []) x*bg (rows.getD j []) x) i)
 | 0=>Cg.rfl'
 | i+1=>by
  rw [IP,Sb];exact (JX _ _ x).trans ((B7 rows ws x i).add (L6 _ _ x))
theorem L7 {p:Nat} (hp:1<p) (a b:Nat) (rows:List (List Nat)) (be:Nat) (x:Int):∀ i,Cg p (bg (zC p a b rows be i) x) (Sb (fun j=>(Pw p be (j+1):Int)*(bg (rows.getD (a+j) []) x*bg (rows.getD (a+b+j) []) x-bg (rows.getD (a+b+b+j) []) x)) i)
 | 0=>Cg.rfl'
 | i+1=>by
  rw [zC,Sb];refine (JX _ _ x).trans ((L7 hp a b rows be x i).add ((Z2 _ _ x).trans (Cg.rfl'.mul ?_)));unfold rY;refine (zBK hp _ _ x).trans ?_;obtain ⟨c,hc⟩:=L6 (p:=p) (rows.getD (a+i) []) (rows.getD (a+b+i) []) x;exact ⟨c,by rw [<- hc];omega⟩
theorem zBA {p:Nat} (f:Nat -> Nat) (al n:Nat):Cg p (oh p (rP p (Pu f n) al n) 0:Int) (Sb (fun j=>(Pw p al (j+1):Int)*(f j:Int)) n):=by
 refine (xS _).trans ((Z5 _ _ _ _).trans (qD _ fun j hj=>?_))
 rw [xZ hj,jZ];exact Cg.rfl'
theorem zCi {p:Nat} (f g:Nat -> Nat) (n:Nat):Cg p (oh p (IP p (Pu f n) (Pu g n) n) 0:Int) (Sb (fun j=>(g j:Int)*(f j:Int)) n):=by
 refine (xS _).trans ((B7 _ _ _ _).trans (qD _ fun j hj=>?_))
 rw [xZ hj,xZ hj,jZ,jZ];exact Cg.rfl'
theorem N7 {p:Nat} (hp:1<p) {a b n:Nat} (hn:a+b+b+b=n) (f:Nat -> Nat) (be:Nat):Cg p (oh p (zC p a b (Pu f n) be b) 0:Int) (Sb (fun j=>(Pw p be (j+1):Int)*((f (a+j):Int)*(f (a+b+j):Int)-(f (a+b+b+j):Int))) b):=by
 refine (xS _).trans ((L7 hp _ _ _ _ _ _).trans (qD _ fun j hj=>?_))
 rw [xZ (by omega),xZ (by omega),xZ (by omega),jZ,jZ,jZ]
 exact Cg.rfl'
def cm2 (p a b be:Nat) (f:Nat -> Nat) (e:Nat):Nat -> Nat
 | 0=>e
 | j+1=>bY p (cm2 p a b be f e j) (Pw p be (j+1)*bY p (f (a+j)*f (a+b+j)%p) (f (a+b+b+j))%p)
theorem zDv {p:Nat} (hp:0<p) (a b:Nat):bY p a b<p:=Nat.mod_lt _ hp
theorem X8 {p:Nat} (a b:List Nat):∀ k,Cg p (J2 p a b k:Int) (Sb (fun m=>(a.getD m 0:Int)*(b.getD m 0:Int)) k)
 | 0=>Cg.rfl'
 | k+1=>by
  rw [J2,Sb];refine (nY _ _).trans ((X8 a b k).add ((LZ _ _).trans ((Cg.mod _).mul (Cg.mod _))))
end Go.Proofs.YtjipleoamlmkfaaGreat
