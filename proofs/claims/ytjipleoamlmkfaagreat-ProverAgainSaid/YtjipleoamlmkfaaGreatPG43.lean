/- A part of the proof. No condition. -/
import Derived.Test.YtjipleoamlmkfaaGreatProg
import Derived.Test.YtjipleoamlmkfaaGreatPG26
import Derived.Test.YtjipleoamlmkfaaGreatPG25
import Derived.Test.YtjipleoamlmkfaaGreatPG35
import Derived.Test.YtjipleoamlmkfaaGreatPG33
import Derived.Test.YtjipleoamlmkfaaGreatPG34
import Derived.Test.YtjipleoamlmkfaaGreatPG30
import Derived.Test.YtjipleoamlmkfaaGreatPG31
import Derived.Test.YtjipleoamlmkfaaGreatPG27
import Derived.Test.YtjipleoamlmkfaaGreatPG36
import Derived.Carry
import Derived.Deep.AppendLies
import Derived.Laws.OwnMore
import Derived.Maps.OwnSet
import Derived.Maps.Views

set_option maxRecDepth 100000
set_option maxHeartbeats 8000000
set_option linter.unusedVariables false
set_option linter.unusedSimpArgs false
namespace Go.Proofs.YtjipleoamlmkfaaGreat
open Go.RowKit Go.Maps
structure PvIn where
 L:Va
 dd:Nat
 pub:Nat
 dg:Nat
 rows:List Ya
 ws:List Nat
 m:List (List Nat)
 crs:List (List Nat)
 l1:List Nat
 l2:List Nat
 l3:List Nat
 l4:List Nat
def PvIn.cols (x:PvIn):List (List Nat):=(List.range x.L.n).map fun i=>(List.range (x.m.length+3)).map (CA x.L (Ow x.L x.m x.crs x.l1 x.l2 x.l3) i)
def PvIn.pu (x:PvIn):List Nat:=(x.ws.drop 1).take x.pub
def PvIn.t1 (x:PvIn) (O:La):Tr:=ef O x.L x.dg x.pu
def PvIn.o2 (x:PvIn) (O:La):La:=ey x.dd (Nb (x.t1 O).O 16 (Qk x.cols x.l4)) (Ee (x.t1 O).O 16 (Qk x.cols x.l4))
def PvIn.tree (x:PvIn) (O:La):List (List Nat):=fm x.dd (Nb (x.t1 O).O 16 (Qk x.cols x.l4)) (Ee (x.t1 O).O 16 (Qk x.cols x.l4))
def PvIn.root (x:PvIn) (O:La):Nat:=su (x.tree O)
def PvIn.ch (x:PvIn) (O:La):ChR:=tk ⟨x.o2 O,(x.t1 O).st,0⟩ x.L.p (x.root O)
def PvIn.t2 (x:PvIn) (O:La):Tr:=ve ⟨x.o2 O,(x.t1 O).st,0⟩ (x.root O)
def PvIn.code (x:PvIn) (al:Nat):List Nat:=(List.range x.L.k).map (pcF x.L.p x.L.k al (fun k=>x.l1.getD k 0) (Zu x.L x.m x.crs) x.m.length)
def PvIn.lin (x:PvIn) (rh:Nat):List Nat:=(List.range (x.L.k+x.L.block-1)).map (plF x.L.p (x.L.k+x.L.block-1) (fun k=>(Rk x.L x.l2).getD k 0) (Fy x.L (dt x.L x.pub rh x.rows) x.m x.crs) x.m.length)
def PvIn.quad (x:PvIn) (be:Nat):List Nat:=(List.range (2*x.L.k-1)).map (pqF x.L.p x.L.k (2*x.L.k-1) be (uh x.L.p x.L.block x.l3 x.l3.length) (tA x.L x.m x.crs) (ZC x.L x.m x.crs) x.L.b)
def PvIn.all (x:PvIn) (O:La):List Nat:=x.code (x.ch O).al++x.lin (x.ch O).rh++x.quad (x.ch O).be
def PvIn.pos (x:PvIn) (O:La):List Nat:=Zr (x.t2 O) (x.all O) x.L.n x.L.queries
def PvIn.oF (x:PvIn) (O:La):La:=Li (x.t2 O) (x.all O) x.L.queries
def PvIn.pr (x:PvIn) (O:La):Ce:=⟨x.root O,x.code (x.ch O).al,x.lin (x.ch O).rh,x.quad (x.ch O).be,(x.pos O).map fun i=>x.cols.getD i [],(x.pos O).map fun i=>x.l4.getD i 0,(x.pos O).map fun i=>yj (x.tree O) i⟩
def ug (O Z:La):Prop:=∀ lab el a,Eo O lab el a -> Eo Z lab el a
theorem Uw {O Y Z:La} (h:ug O Y) (k:ug Y Z):ug O Z:=fun _ _ _ a=>k _ _ _ (h _ _ _ a)
theorem AF (O:La) (lab:Nat) (el:List Nat):ug O (jc O lab el):=fun _ _ _ h=>JG h lab el
theorem wK (O:La) (lab:Nat) (qs:List (List Nat)):ug O (Nb O lab qs):=fun _ _ _ h=>xL h lab qs
theorem dU:∀ (d:Nat) (O:La) (l:List Nat),ug O (ey d O l)
 | 0,_,_=>fun _ _ _ h=>h
 | d+1,O,l=>Uw (wK O 17 (ld l)) (dU d _ _)
theorem rep {O Z:La} {lab:Nat} {el:List Nat} (h:ug (jc O lab el) Z):Kc Z lab el=Kc O lab el /\ jc Z lab el=Z:=by
 by_cases he:Sd el=true
 ·have:=yL (h _ _ _ (uN O lab he))
  exact ⟨this.2.1,this.1⟩
 ·constructor
  ·unfold Kc
   rw [if_neg he,if_neg he]
  ·unfold jc
   rw [if_neg he]
theorem XJ {lab:Nat}:∀ (qs:List (List Nat)) {O Z:La},ug (Nb O lab qs) Z -> Nb Z lab qs=Z
 | [],_,_,_=>rfl
 | q :: qs,O,Z,h=>by
  have h1:ug (jc O lab q) Z:=Uw (wK (jc O lab q) lab qs) h;show Nb (jc Z lab q) lab qs=Z
  rw [(rep h1).2];exact XJ qs (O:=jc O lab q) h
theorem mF {O Z:La} {st ct tag:Nat} {l:List Nat} (h:ug (Zg ⟨O,st,ct⟩ tag l).O Z):Zg ⟨Z,st,ct⟩ tag l=⟨Z,(Zg ⟨O,st,ct⟩ tag l).st,0⟩:=by
 have:=rep h;simp only [Zg] at *;rw [this.1,this.2]
theorem pF {O Z:La} {st ct:Nat} (h:ug (Ed ⟨O,st,ct⟩).O Z):Ed ⟨Z,st,ct⟩=⟨Z,st,ct+1⟩:=by
 have:=rep h;simp only [Ed] at *;rw [this.2]
theorem iU (O:La) (st root:Nat):ug O (ve ⟨O,st,0⟩ root).O:=by
 have h:∀ s:Tr,ug s.O (Ed s).O:=fun s=>AF s.O 19 [s.st,s.ct]
 have h0:ug O (Zg ⟨O,st,0⟩ 2 [root]).O:=AF O 18 [st,2,root];unfold ve;exact Uw h0 (Uw (h _) (Uw (h _) (h _)))
theorem jU (s:Tr) (all:List Nat) (q:Nat):ug s.O (Li s all q):=by
 have h0:ug s.O (Zg s 3 all).O:=AF s.O 18 (s.st :: 3 :: all);unfold Li;exact Uw h0 (wK _ _ _)
theorem XR {O Z:La} {st root:Nat} (h:ug (ve ⟨O,st,0⟩ root).O Z):ve ⟨Z,st,0⟩ root=⟨Z,(ve ⟨O,st,0⟩ root).st,3⟩:=by
 obtain ⟨a,ha⟩:=zEX (Zg ⟨O,st,0⟩ 2 [root]);have hc:a.ct=0:=by rw [ha];rfl
 have e:ve ⟨O,st,0⟩ root=Ed (Ed (Ed a)):=by rw [ha];rfl
 rw [e] at h |-;have h2:ug (Ed (Ed a)).O Z:=Uw (AF _ _ _) h;have h1:ug (Ed a).O Z:=Uw (AF _ _ _) h2;have h0:ug a.O Z:=Uw (AF _ _ _) h1;show Ed (Ed (Ed (Zg ⟨Z,st,0⟩ 2 [root])))=_
 rw [mF (by rw [<- ha];exact h0),<- ha]
 have r1:Ed ⟨Z,a.st,0⟩=⟨Z,a.st,1⟩:=pF (O:=a.O) (by rw [<- hc];exact h1)
 have e1:(⟨(Ed a).O,a.st,1⟩:Tr)=Ed a:=by simp [Ed,hc]
 have r2:Ed ⟨Z,a.st,1⟩=⟨Z,a.st,2⟩:=pF (O:=(Ed a).O) (by rw [e1];exact h2)
 have e2:(⟨(Ed (Ed a)).O,a.st,2⟩:Tr)=Ed (Ed a):=by simp [Ed,hc]
 have r3:Ed ⟨Z,a.st,2⟩=⟨Z,a.st,3⟩:=pF (O:=(Ed (Ed a)).O) (by rw [e2];exact h)
 rw [r1,r2,r3]
 rfl
theorem YR {O Z:La} {st ct q:Nat} {all:List Nat} (h:ug (Li ⟨O,st,ct⟩ all q) Z):Li ⟨Z,st,ct⟩ all q=Z:=by
 have ha:ug (Zg ⟨O,st,ct⟩ 3 all).O Z:=Uw (wK _ _ _) h;unfold Li;rw [mF ha];exact XJ _ h
theorem eU:∀ (d:Nat) (O:La) (l:List Nat),rm O -> (∀ x∈l,x<Xa) -> ∀ r∈fm d O l,∀ x∈r,x<Xa
 | 0,_,l,_,hl=>fun r hr x hx=>by
  have e:r=l:=by simpa [fm] using hr
  subst e;exact hl x hx
 | d+1,O,l,hO,hl=>fun r hr x hx=>by
  rcases List.mem_cons.1 (show r∈l :: fm d (Nb O 17 (ld l)) (Ee O 17 (ld l)) from hr) with e | e
  ·subst e
   exact hl x hx
  ·exact eU d _ _ (EG hO 17 _) (IG hO 17 _) r e x hx
theorem BD {l:List Nat} (hl:∀ x∈l,x<Xa) (i:Nat):l.getD i 0<Xa:=by
 by_cases h:i<l.length
 ·exact hl _ (Bx 0 h)
 ·rw [List.getD_eq_getElem?_getD,List.getElem?_eq_none (by omega)]
  decide
theorem eK {ls:List (List Nat)} (h:∀ r∈ls,∀ x∈r,x<Xa) (k j:Nat):(ls.getD k []).getD j 0<Xa:=by
 by_cases hk:k<ls.length
 ·exact BD (h _ (Bx [] hk)) j
 ·have e:ls.getD k []=[]:=by rw [List.getD_eq_getElem?_getD,List.getElem?_eq_none (by omega)];rfl
  rw [e];show 0<Xa
  decide
theorem DQ {ls:List (List Nat)} (h:∀ r∈ls,∀ x∈r,x<Xa) (i:Nat):∀ x∈yj ls i,x<Xa:=by
 rw [IB];intro x hx;obtain ⟨k,_,rfl⟩:=List.mem_map.1 hx;exact eK h _ _
theorem cS {ls:List (List Nat)} (h:∀ r∈ls,∀ x∈r,x<Xa):su ls<Xa:=by
 unfold su;cases ls with
 | nil=>decide
 | cons a r =>
  refine BD (h _ ?_) 0;rw [List.getLastD_cons];cases r with
  | nil=>exact .head _
  | cons b q=>rw [List.getLastD_eq_getLast?,List.getLast?_eq_some_getLast (List.cons_ne_nil b q)];exact .tail _ (List.getLast_mem _)
theorem cU:∀ (d:Nat) {O:La} {k:Nat} (l:List Nat),l.length=2^d -> Qc O k -> Qc (ey d O l) (k+2^d)
 | 0,_,_,_,_,h=>Ih h (by omega)
 | d+1,O,k,l,hl,h=>by
  have e:l.length / 2=2^d:=by rw [hl,Nat.pow_succ];omega
  have h1:=Ox (lab:=17) (ld l) h;rw [CI,e] at h1;refine Ih (cU d (Ee O 17 (ld l)) (by rw [Dw,CI,e]) h1) ?_
  rw [Nat.pow_succ];omega
theorem gU {p:Nat} (h:Db p=true):p <= Xa:=by
 rcases Hw h with rfl | rfl | rfl | rfl | rfl | rfl | rfl <;> decide
theorem WR {O Z:La} {L:Va} {dg:Nat} {l:List Nat} (h:ug (ef O L dg l).O Z):ef Z L dg l=⟨Z,(ef O L dg l).st,0⟩:=mF h
theorem zS (O:La) (st root:Nat):(ve ⟨O,st,0⟩ root).ct=3:=rfl
theorem VR {Z:La} {s:Tr} {all:List Nat} {q:Nat} (hc:s.ct=3) (h:ug (Li s all q) Z):Li ⟨Z,s.st,3⟩ all q=Z:=by
 cases s
 simp only at hc;subst hc;exact YR h
theorem eL {O O2 Z:La} {L:Va} {dg root q:Nat} {l all:List Nat} (h1:ug (ef O L dg l).O Z) (h2:ug (ve ⟨O2,(ef O L dg l).st,0⟩ root).O Z) (h3:ug (Li (ve ⟨O2,(ef O L dg l).st,0⟩ root) all q) Z) :
  Li (ve (ef Z L dg l) root) all q=Z:=by
 rw [WR h1,XR h2];exact VR (zS _ _ _) h3
theorem fU {O Z:La} {st root:Nat} (h:ug (ve ⟨O,st,0⟩ root).O Z) (hZ:rm Z):0<Z.qs.length:=by
 obtain ⟨a,ha⟩:=zEX (Zg ⟨O,st,0⟩ 2 [root]);have hs:∀ s:Tr,ug s.O (Ed s).O:=fun s=>AF s.O 19 [s.st,s.ct]
 have e:ve ⟨O,st,0⟩ root=Ed (Ed (Ed a)):=by rw [ha];rfl
 rw [e] at h;have s1:ug (Ed a).O Z:=Uw (hs _) (Uw (hs _) h);have s0:ug (jc O 18 [st,2,root]) Z:=Uw (by rw [ha] at s1 |-;exact fun _ _ _ h=>h) (Uw (hs a) s1)
 have es:a.st=Kc O 18 [st,2,root]:=by rw [ha];rfl
 have e3:a.st<Xa:=by
  rw [es,<- (rep s0).1];exact Bt hZ 18 _
 have ec:a.ct=0:=by rw [ha];rfl
 have hq:=s1 _ _ _ (uN a.O 19 (el:=[a.st,a.ct]) (by rw [ec];simp only [Sd,List.all_cons,List.all_nil,Bool.and_true,Bool.and_eq_true,decide_eq_true_eq];exact ⟨e3,by decide⟩))
 have sp:=hq.2;rcases Nat.eq_zero_or_pos Z.qs.length with h0 | h0
 ·rw [List.eq_nil_of_length_eq_zero h0] at sp
  cases sp
 ·exact h0
section
variable (x:PvIn) (O:La)
theorem PvIn.cols_len:x.cols.length=x.L.n:=by simp [PvIn.cols]
theorem PvIn.cols_row (l:List Nat) (h:l∈x.cols):l.length=x.m.length+3:=by
 obtain ⟨i,-,rfl⟩:=List.mem_map.1 h;simp
theorem PvIn.cols_els (hp:Db x.L.p=true):∀ l∈x.cols,Sd l=true:=fun l h=>by
 obtain ⟨i,-,rfl⟩:=List.mem_map.1 h;unfold Sd;rw [List.all_eq_true];intro y hy;obtain ⟨j,-,rfl⟩:=List.mem_map.1 hy;have h1:=DM (p:=x.L.p) (by have:=nc hp;omega) x.L.n x.L.n.log2 ((Ow x.L x.m x.crs x.l1 x.l2 x.l3).getD j []) (Yc x.L.p).1 i
 have h2:=gU hp;exact decide_eq_true (show CA _ _ _ _<Xa from Nat.lt_of_lt_of_le h1 h2)
theorem PvIn.sub1:ug (x.t1 O).O (x.o2 O):=Uw (wK _ _ _) (dU _ _ _)
theorem PvIn.sub2:ug (x.o2 O) (x.t2 O).O:=iU _ _ _
theorem PvIn.sub3:ug (x.t2 O).O (x.oF O):=jU _ _ _
theorem PvIn.again:Li (ve (ef (x.oF O) x.L x.dg x.pu) (x.root O)) (x.all O) x.L.queries=x.oF O :=
 eL (O:=O) (O2:=x.o2 O) (Uw (x.sub1 O) (Uw (x.sub2 O) (x.sub3 O))) (x.sub3 O) fun _ _ _ h=>h
theorem PvIn.code_lt (hp:0<x.L.p) (h:∀ y∈x.l1,y<x.L.p) (al:Nat):∀ y∈x.code al,y<x.L.p:=fun y hy=>by
 obtain ⟨k,-,rfl⟩:=List.mem_map.1 hy;exact DJ hp (fun k=>GH hp h k) _ _
theorem PvIn.lin_lt (hp:0<x.L.p) (h:∀ y∈x.l2,y<x.L.p) (rh:Nat):∀ y∈x.lin rh,y<x.L.p:=fun y hy=>by
 obtain ⟨k,-,rfl⟩:=List.mem_map.1 hy;refine JJ hp (fun k=>?_) _ _
 cases k with
 | zero=>exact GI hp _ _
 | succ k=>exact GH hp h k
theorem PvIn.quad_lt (hp:0<x.L.p) (be:Nat):∀ y∈x.quad be,y<x.L.p:=fun y hy=>by
 obtain ⟨k,-,rfl⟩:=List.mem_map.1 hy;exact PJ hp (fun k=>dC hp _ _ _) _ _
theorem PvIn.tree_lt (h:rm (x.t1 O).O):∀ r∈x.tree O,∀ y∈r,y<Xa:=eU _ _ _ (EG h 16 _) (IG h 16 _)
theorem PvIn.o2_le {k:Nat} (hn:x.L.n=2^x.dd) (h:Qc (x.t1 O).O k):Qc (x.o2 O) (k+2*x.L.n):=by
 have h1:=Ox (lab:=16) (Qk x.cols x.l4) h;rw [yE,x.cols_len] at h1;have h2:=cU x.dd (Ee (x.t1 O).O 16 (Qk x.cols x.l4)) (by rw [Dw,yE,x.cols_len,hn]) h1
 rw [<- hn] at h2;exact Ih h2 (by omega)
theorem PvIn.some_asked (h:rm (x.oF O)):0<(x.oF O).qs.length:=fU (x.sub3 O) h
end
end Go.Proofs.YtjipleoamlmkfaaGreat
namespace Go.Proofs.YtjipleoamlmkfaaGreat
open Go.RowKit
def Bo (N:Nat) (w:World) (xs:Nat -> Value) (n:Nat -> Nat) (vals:Nat -> List Nat):Prop :=
 (∀ j,j<3 -> w.ownsRow N 22 1 (xs j) (n j) (Ca ((vals j).take (n j)))) /\
 ∀ j i,j<3 -> i<3 -> j≠i -> ∀ q,(xs j).ownBlock=some q -> (xs i).ownBlock=some q -> False
theorem OB {N:Nat} {w w':World} {xs:Nat -> Value} {n:Nat -> Nat} {vals:Nat -> List Nat} (h:Bo N w xs n vals) (hb:Below w.heap.size w w'):Bo N w' xs n vals :=
 ⟨fun j hj=>db (h.1 j hj) hb zR,h.2⟩
theorem mR {N B:Nat} {w w':World} {xs:Nat -> Value} {n:Nat -> Nat} {vals:Nat -> List Nat} (h:Bo N w xs n vals) (hg:w.grownBy w' (some B)) (hB:B<N):Bo N w' xs n vals :=
 ⟨fun j hj=>Ze (h.1 j hj) hg hB,h.2⟩
theorem lR {N k:Nat} {w w':World} {xs:Nat -> Value} {n:Nat -> Nat} {vals:Nat -> List Nat} {x:Value} (h:Bo N w xs n vals) (hk:k<3) (ho:w'.ownsRow N 22 1 x (n k+1) (Ca ((vals k).take (n k+1)))) (hg:w.grownBy w' (xs k).ownBlock) (hb:x.ownBlock=(xs k).ownBlock \/ x.ownBlock=some w.heap.size):Bo N w' (Wk xs k x) (fun j=>if j=k then n k+1 else n j) vals:=by
 refine ⟨fun j hj=>?_,fun j i hj hi Ka q h1 h2=>?_⟩
 ·by_cases e:j=k
  ·subst e;simp only [Wk,if_true];exact ho
  ·simp only [Wk,if_neg e]
   exact tJ (h.1 j hj) hg fun q h1 h2=>h.2 j k hj hk e q h1 h2
 ·by_cases e:j=k
  ·subst e
   have e2:¬i=j:=fun e2=>Ka e2.symm
   rw [Wk,if_pos rfl] at h1;rw [Wk,if_neg e2] at h2;exact vA (h.1 i hi) (h.2 j i hj hi Ka) hb q h1 h2
  ·rw [Wk,if_neg e] at h1
   by_cases e2:i=k
   ·subst e2
    rw [Wk,if_pos rfl] at h2;exact vA (h.1 j hj) (h.2 i j hi hj (fun e=>Ka e.symm)) hb q h2 h1
   ·rw [Wk,if_neg e2] at h2
    exact h.2 j i hj hi Ka q h1 h2
theorem iQ (L:Va) (pu:Nat) (vars:Int) (A B:Option Addr) (n c m d:Nat) (rows:List Ya) (ws:List Nat) (w:World) (hL:Vc L) (hF:ux L pu vars rows) (hr:RSl 3 Md w [.slice A n c] rows) (hw:RWd w [.slice B m d] ws) (Cr:(ws.length:Int)=vars) :
  Calls Tryz.prog 35 #[.agg (Ua L),Ib L.p (pu:Int) vars (.slice A n c), .slice B m d] w fun e w'=>∃ v,e= .returned v /\ RRx w.heap.size w' v (Ew L rows ws pu) /\ Below w.heap.size w w':=by
 obtain ⟨Bh,sr,hdx,oa,Je⟩:=zb hw;subst Bh;have gm:=uj sr hdx;have Vt:=hF.sec;have Ol:=hL.r;have hnr:=hF.nr;obtain ⟨s,hs⟩:=zEX (1+pu);have e1:(1:Int)+(pu:Int)=(s:Int):=by omega
 have e2:=zd s;have e3:(s:Int) <= (ws.length:Int):=by omega
 have e4:s <= ws.length:=by omega
 have e5:(0:Int) <= (s:Int):=by omega
 have dv:((ws.length:Int) != vars)=false:=by rw [Cr];simp
 rw [show Ew L rows ws pu=Io L.block (xe (ws.drop s) (Kh L.p rows ws 0) (Kh L.p rows ws 1) (Kh L.p rows ws 2)) (xe L.a L.b L.b L.b) by rw [hs];rfl]
 have sn:L.a=((ws.drop s).length+L.block-1) / L.block:=by
  rw [List.length_drop,show ws.length-s=L.secret by omega];exact hL.ae
 have Yj:∀ k,L.b=((Kh L.p rows ws k).length+L.block-1) / L.block:=fun k=>by
  rw [show (Kh L.p rows ws k).length=L.rows by simp [Kh,hnr]];exact hL.be
 have Zt:RWd w [.slice (if d=s then B else Option.map (fun x=>x.add s) B) (ws.length-s) (d-s)] (ws.drop s):=by
  have hc:=Je.cut (k:=s) e4 sr;rw [Nat.mul_one] at hc;refine ⟨_,_,_,rfl,by omega,by omega,?_,fun x hx=>oa x (List.mem_of_mem_drop hx)⟩
  have e:Ca (ws.drop s)=(Ca ws).drop s:=by simp [Ca]
  rw [e];exact hc
 have mw:rows.length=n:=by
  obtain ⟨_,_,_,he,hn,-⟩:=hr;simp at he
  omega
 have zm:=zH (fun w=>LG L pu vars A n c rows w hL hF mw)
 have HVl:=zH (fun A len c l w' (hb:Below w.heap.size w w') hl=>zK L.p A B len c ws.length d l ws w' hl (ib hb hw) hL.p)
 have HCut:=zH (fun v0 v1 v2 v3 l0 l1 l2 l3 w h hq=>wJ L v0 v1 v2 v3 l0 l1 l2 l3 w hL h hq)
 obtain ⟨A',n',c',he,hnl,Sc,kh,za⟩:=hr;simp at he
 obtain ⟨rfl,rfl,rfl⟩:=he;subst mw;have gr:(rows.length:Int) <= 65536:=by omega
 have vl:=zH (show ∀ k i (h:i<rows.length),(Kh L.p rows ws k).take i++[ud L.p (Dd rows[i] k) ws]=(Kh L.p rows ws k).take (i+1) from fun k i h=>by
  rw [List.take_succ_eq_append_getElem (by simpa [Kh] using h)]
  simp [Kh])
 have Bk:=zH (show ∀ k,(Kh L.p rows ws k).take rows.length=Kh L.p rows ws k from fun k=>List.take_of_length_le (by simp [Kh]))
 have HVT:=zH (show ∀ k,∀ x∈Kh L.p rows ws k,x<18446744073709551616 from fun k x hx=>by
  obtain ⟨r,-,rfl⟩:=List.mem_map.1 hx;exact Nat.lt_trans (xO (by have:=nc hL.p;omega) _ _) (nc hL.p).2)
 obtain ⟨vals,ZH⟩:=zEX (Kh L.p rows ws);rw [<- ZH] at vl Bk HVT Yj |-;have HQ:=zH (And.intro sn Yj);obtain ⟨B0,hB0⟩:=zEX ((if d=s then B else Option.map (fun x=>x.add s) B))
 have HB0:=zH hB0;rw [<- hB0] at Zt;obtain ⟨TC,hTC⟩:∃ TC:Array Value,TC=#[.int .u64 L.p, .int .i64 pu, .int .i64 vars, .slice A rows.length c]:=⟨_,rfl⟩;have HTC:=zH hTC;have HT0:=zH (show TC[0]?=some (.int .u64 L.p) by rw [hTC];rfl)
 have HT3:=zH (show TC[3]?=some (.slice A rows.length c) by rw [hTC];rfl)
 unfold Ua Ib at *;obtain ⟨kl,kt,aa,-⟩:=ah w 68 25 #[.int .u64 L.p, .int .i64 L.block, .int .i64 L.queries, .int .i64 L.k, .int .i64 L.n, .int .i64 L.secret, .int .i64 L.rows, .int .i64 L.a, .int .i64 L.b, .int .i64 L.b, .int .i64 L.b] #[.int .u64 L.p, .int .i64 pu, .int .i64 vars, .slice A rows.length c];clear hs ZH Je oa hw hB0 hTC sn Yj Vt Ol hnr Cr hF hL;go_enter Tryz.func35,Tryz.ntmps35
 go_upto_region 1 with fail
 generalize (w.alloc _).alloc _=w1 at kl kt aa |-;have cl:=kl.cell;have ct:=kt.cell;go_wp2_with fail
 refine (zm.out _).mono ?_;rintro e w2 ⟨rfl,Aa⟩;replace kl:=ea kl Aa;replace kt:=ea kt Aa;replace aa:=ja aa Aa;clear Aa cl ct zm;have ct:=kt.cell;go_upto_region 4 with fail
 rw [<- HB0.out];clear e1 e2 e3 e4 e5 HB0 ct dv;have kv:=Blk.new w2 166 #[.slice B0 (ws.length-s) (d-s), .slice none 0 0, .slice none 0 0, .slice none 0 0];have ia:=(Below.refl w2.heap.size w2).alloc zR (.cells #[.slice B0 (ws.length-s) (d-s), .slice none 0 0, .slice none 0 0, .slice none 0 0] 166);have n1:=kt.lt;have n2:=kl.lt;replace kl:=ea kl ia;replace kt:=ea kt ia;replace aa:=ja aa ia;clear ia;have ff:w2.heap.size+1 <= (w2.alloc (.cells #[.slice B0 (ws.length-s) (d-s), .slice none 0 0, .slice none 0 0, .slice none 0 0] 166)).heap.size:=kv.lt;have Wo:w.heap.size <= w2.heap.size:=by omega
 generalize ws.length-s=n0 at *;generalize d-s=d0 at *;generalize w2.alloc _=w3 at kl kt kv aa ff |-;generalize w2.heap.size=gv at kv n1 n2 ff Wo |-;obtain ⟨V0,Wm⟩:∃ V0:Value,V0= .slice B0 n0 d0:=⟨_,rfl⟩;have HV0:=zH Wm;rw [<- Wm] at kv Zt;clear Wm;rw [<- HTC.out] at kt;have n3:w.heap.size≠gv:=by omega
 have n4:w.heap.size+1≠gv:=by omega
 obtain ⟨N,hN⟩:=zEX (gv+1);rw [<- hN] at ff;have nv:gv<N:=by omega
 have nv2:gv≠N:=by omega
 have n5:w.heap.size<N:=by omega
 have n6:w.heap.size+1<N:=by omega
 have n7:w.heap.size <= gv:=by omega
 have n8:w.heap.size≠N:=by omega
 clear hN;have ct:=kt.cell 3;rw [HT3.out] at ct;go_wp2_with fail
 clear ct;go_loopw [32] (fun y wr=>∃ (i:Nat) (xs:Nat -> Value),i <= rows.length /\ y= .int .i64 i /\ Blk wr w.heap.size 68 #[.int .u64 L.p, .int .i64 L.block, .int .i64 L.queries, .int .i64 L.k, .int .i64 L.n, .int .i64 L.secret, .int .i64 L.rows, .int .i64 L.a, .int .i64 L.b, .int .i64 L.b, .int .i64 L.b] /\ Blk wr (w.heap.size+1) 25 TC /\ Blk wr gv 166 #[V0,xs 0,xs 1,xs 2] /\ Bo N wr xs (fun _=>i) vals /\ Below w.heap.size w wr /\ N <= wr.heap.size) (fun y _=>rows.length-(intOf y).toNat)
 case atStart=>exact ⟨0,fun _=>.slice none 0 0,by omega,rfl,kl,kt,kv,⟨fun j _=>⟨rfl, .inl ⟨rfl,rfl⟩⟩,fun j i _ _ _ q h=>by cases h⟩,aa,ff⟩
 case round =>
  clear kl kt kv aa ff;obtain ⟨i,xs,hi,rfl,kl,kt,kv,h3,aa,ff⟩:=hrel;by_cases ar:i<rows.length
  ·have q1:(i:Int)<(rows.length:Int):=by omega
   have q2:(0:Int) <= (i:Int):=by omega
   obtain ⟨b,q,rfl⟩:=za.base (by omega) (by omega)
   obtain ⟨cs,-,hc,u0,u1,u2,rfl,hu0,hu1,Xt⟩:=za.get ar;have r0:w.cell? ⟨b,q+i*3,none⟩=some u0:=hc 0 (by omega)
   have r1:w.cell? ⟨b,q+i*3+1,none⟩=some u1:=hc 1 (by omega)
   have r2:w.cell? ⟨b,q+i*3+2,none⟩=some u2:=hc 2 (by omega)
   have lb:=World.block_lt_of_cell? _ _ r0;replace r0:=(aa.cell (p:=⟨b,q+i*3,none⟩) lb).trans r0;replace r1:=(aa.cell (p:=⟨b,q+i*3+1,none⟩) lb).trans r1;replace r2:=(aa.cell (p:=⟨b,q+i*3+2,none⟩) lb).trans r2;obtain ⟨P0,m0,k0,rfl⟩:=RSl.slc hu0;obtain ⟨P1,m1,Bd,rfl⟩:=RSl.slc hu1;obtain ⟨P2,m2,k2,rfl⟩:=RSl.slc Xt;have HVNi:=zH (show ∀ k,(vals k).take i++[ud L.p (Dd (rows[i]'ar) k) ws]=(vals k).take (i+1) from fun k=>vl.out k i ar)
   obtain ⟨ri,hri⟩:=zEX (rows[i]'ar);rw [<- hri] at hu0 hu1 Xt HVNi;clear hri;have HHI:=zH hi;obtain ⟨i1,Di⟩:=zEX (i+1);have fl:=zH Di;have Fb:=zH ar;clear hc hi Di;go_upto_region 7 with fail
   have kr:=Blk.new wr 170 #[.slice P0 m0 k0, .slice P1 m1 Bd, .slice P2 m2 k2];have ia:=(Below.refl wr.heap.size wr).alloc zR (.cells #[.slice P0 m0 k0, .slice P1 m1 Bd, .slice P2 m2 k2] 170);replace h3:=OB h3 ia;replace kl:=ea kl ia;replace kt:=ea kt ia;replace kv:=ea kv ia;replace aa:=ja aa ia;replace ff:=Nat.le_trans ff ia.size;clear ia r0 r1 r2;generalize wr.alloc _=wo at kr kl kt kv h3 aa ff |-;generalize wr.heap.size=gr at kr |-;have cr:=kr.cell;go_wp2_with fail
   clear cr kr;have HU0:=zH (fun w' (hb:Below w.heap.size w w')=>se _ _ _ _ hb hu0)
   have HU1:=zH (fun w' (hb:Below w.heap.size w w')=>se _ _ _ _ hb hu1)
   have HU2:=zH (fun w' (hb:Below w.heap.size w w')=>se _ _ _ _ hb Xt)
   clear hu0 hu1 Xt;go_loopw [43] (fun y wr=>∃ (k:Nat) (xs:Nat -> Value),k <= 3 /\ y= .int .i64 k /\ Blk wr gv 166 #[V0,xs 0,xs 1,xs 2] /\ Bo N wr xs (fun j=>if j<k then i+1 else i) vals /\ mi gv N wo wr /\ N <= wr.heap.size) (fun y _=>3-(intOf y).toNat)
   case atStart=>exact ⟨0,xs,by omega,rfl,kv,h3,(sb _ _).refl _,ff⟩
   case round =>
    clear kv h3;obtain ⟨k,xs,hk,rfl,kv,h3,tb,zh⟩:=hrel;have y1:w.heap.size<gv+1:=by omega
    have y2:w.heap.size+1<gv+1:=by omega
    have klr:=NG kl tb n5 n3;have ktr:=NG kt tb n6 n4;have Qa:Below w.heap.size w wr:=aa.trans ⟨tb.1,tb.2.1,tb.2.2.1,tb.2.2.2.1,fun b hb=>tb.2.2.2.2 b (by omega) (by omega)⟩
    by_cases oa:k<3
    ·have g1:(k:Int)<3:=by omega
     have g2:(0:Int) <= (k:Int):=by omega
     obtain ⟨k1,Lg⟩:=zEX (k+1);have ek:(1:Int)+(k:Int)=(k1:Int):=by omega
     have Cv:=zd k1;have HK1:=zH Lg;have qk:k1<4:=by omega
     have qk2:(k1:Int)<4:=by omega
     have qk3:(0:Int) <= (k1:Int):=by omega
     clear Lg;have ma:wr.ownsRow N 22 1 (xs k) i (Ca ((vals k).take i)):=by have:=h3.1 k oa;simpa using this
     obtain ⟨Ax,cx,Sl,-⟩:=Tb ma;have ix:=fun (w:World)=>mE (w:=w) (x:=.slice P0 m0 k0) (y:=.slice P1 m1 Bd) (z:=.slice P2 m2 k2) oa
     obtain ⟨sel,Kd⟩:=zEX ((if k=0 then Value.slice P0 m0 k0 else if k=1 then .slice P1 m1 Bd else .slice P2 m2 k2))
     have qj:RLin wr [sel] (Dd ri k):=by
      rw [Kd];unfold Dd;have hfb:Below wo.heap.size wo wr \/ True:=.inr trivial;rcases (show k=0 \/ k=1 \/ k=2 by omega) with h | h | h <;> subst h
      ·exact HU0.out _ Qa
      ·exact HU1.out _ Qa
      ·exact HU2.out _ Qa
     rw [<- Kd] at ix;obtain ⟨As,ns,Bc,rfl⟩:=RSl.slc qj;have gG:=zH (HVNi.out k);have cv:wr.cell? ⟨gv,k1,none⟩=some (.slice Ax i cx):=by
      rw [kv.cell,HK1.out,BG oa,Sl]
     obtain ⟨z,hz⟩:=zEX (ud L.p (Dd ri k) ws);have Gm:=zH (fun w' (hb:Below w.heap.size w w') (hl':RLin w' [.slice As ns Bc] (Dd ri k))=>by have:=HVl.out As ns Bc (Dd ri k) w' hb hl';rw [<- hz] at this;exact this)
     rw [<- hz] at gG;have Fg:=zH Sl;have cl:=klr.cell;have ll:=klr.lt;have lv:=kv.lt;clear Kd hz Sl;generalize Dd ri k=lside at *;go_upto_region 10 with fail
     refine Zw (mi N N) [10,11,12,14] [14] [0,1,2,3,4,5,6,7,8,9,10,11,12,13,14] (by kernel_rfl) (by kernel_rfl) ?_
     refine bx (sb N N) ?_;intro Wc Ba da;have Ja:=Sg Ba;have Ob:N <= Wc.heap.size:=by have:=Ja.size;omega
     replace kv:=ea kv Ja;replace ma:=db ma Ja zR;replace Qa:=ja Qa Ja;replace h3:=OB h3 Ja;replace qj:=se _ _ _ _ Ja qj;replace tb:=(sb gv N).trans _ _ _ tb (yf Ja zh);clear Ba Ja;refine qg ?_;refine Oz (sb N N) rfl rfl rfl (fun _=>by go_simp <;> rfl) ((Gm.out _ Qa qj).mono ?_)
     rintro e w6 ⟨rfl,Cc⟩;refine ⟨_,rfl,fun _=>yf Cc Ob,?_⟩
     replace da:=(sb N N).trans _ _ _ da (yf Cc Ob);simp only [Act.put,zLa,zLb,zLc];have Gk:N <= w6.heap.size:=by have:=Cc.size;omega
     replace kv:=ea kv Cc;replace ma:=db ma Cc zR;replace Qa:=ja Qa Cc;replace h3:=OB h3 Cc;replace tb:=(sb gv N).trans _ _ _ tb (yf Cc Ob);clear Cc qj;refine qg ?_;refine og (sb N N) rfl rfl rfl ?_;go_simp;have ia:=(Below.refl w6.heap.size w6).alloc zR (.cells #[.int .u64 z] 22);have re:=Uk w6 (.int .u64 z) 22;refine ⟨fun _=>yf ia Gk,?_⟩
     replace kv:=ea kv ia;replace ma:=db ma ia zR;replace Qa:=ja Qa ia;replace h3:=OB h3 ia;replace tb:=(sb gv N).trans _ _ _ tb (yf ia Gk);have Zd:=Nat.le_trans Gk ia.size
     try simp only [Act.put,zLa,zLb,zLc]
     generalize w6.alloc _=w7 at kv ma h3 tb re Qa Zd |-;generalize w6.heap.size=g6 at re |-;clear ia Gk da cl cv;have da:=(sb N N).refl w7;refine qg ?_;refine og (sb N N) rfl rfl rfl ?_;refine om _ _ rfl Vi rfl (by rw [Fg.out] at ma;exact ma) rfl re (yg [z]) (by omega) Zd ?_
     intro v' wn Ta Ha Ab;have Vb:∀ q,(Value.slice Ax i cx).ownBlock=some q -> N <= q:=fun q e=>by rw [<- Fg.out] at e;exact (ma.lt q e).1
     refine ⟨fun _=>Gq Ha Zd Vb,?_⟩
     replace kv:=kv.grown Ha (fun e=>by first | (have:=Vb _ e;omega) | (have:=Vb _ e.symm;omega))
     replace tb:=(sb gv N).trans _ _ _ tb (Gq Ha Zd Vb);replace Ta:wn.ownsRow N 22 1 v' (i+1) (Ca ((vals k).take (i+1))):=Kr (b:=[z]) Ta gG.out;have h4:=lR (x:=v') h3 oa (by simpa using Ta) (by rw [Fg.out];exact Ha) (by rw [Fg.out];exact Ab)
     obtain ⟨Aw,cw,rfl,-⟩:=Tb Ta;have Ud:=Nat.le_trans Zd Ha.size;clear ma Ha Ab Vb Zd re da h3 Ta;have da:=(sb N N).refl wn;have cv:wn.cell? ⟨gv,k1,none⟩=some (.slice Ax i cx):=by
      rw [kv.cell,HK1.out,BG oa,Fg.out]
     have fv2:=kv.frozen
     try simp only [Act.put,zLa,zLb,zLc]
     refine qg ?_;refine og (sb N N) rfl rfl rfl ?_;go_simp;refine ⟨fun h=>Bool.noConfusion h,?_⟩
     have Oa:=Pg (w:=wn) gv k1 (.slice Aw (i+1) cw);replace kv:=kv.set_ k1 (.slice Aw (i+1) cw);rw [HK1.out,wL oa,<- HK1.out] at kv;have h4:=mR h4 Oa nv;replace tb:=(sb gv N).trans _ _ _ tb (zx Oa Ud);replace Ud:=Nat.le_trans Ud Oa.size;clear Oa cv fv2 da;generalize wn.setCell _ _=wz at kv h4 tb Ud |-;have da:=(sb N N).refl wz;refine qg ?_;refine ax ?_;have h5:Bo N wz (Wk xs k (.slice Aw (i+1) cw)) (fun j=>if j<k1 then i+1 else i) vals:=by
      have e:(fun j=>if j=k then (fun j=>if j<k then i+1 else i) k+1 else (fun j=>if j<k then i+1 else i) j)=(fun j=>if j<k1 then i+1 else i):=by
       funext j
       rw [HK1.out];by_cases e1:j=k
       ·subst e1;simp
       ·by_cases e2:j<k
        ·simp [e1,e2,show j<k+1 by omega]
        ·simp [e1,e2,show ¬j<k+1 by omega]
      rw [e] at h4;exact h4
     clear h4;have HKL:=zH (show k1 <= 3 by omega)
     go_wp2
     go_roundw
     case rel=>exact ⟨k1,Wk xs k (.slice Aw (i+1) cw),HKL.out,by rw [HK1.out];go_num,kv,h5,tb,Ud⟩
     case measure=>simp [intOf];omega
    ·obtain rfl:k=3:=by omega
     have h3':Bo N wr xs (fun _=>i1) vals:=by
      refine ⟨fun j hj=>?_,h3.2⟩
      have:=h3.1 j hj;simp only [if_pos hj] at this;rw [fl.out];exact this
     clear h3;have HEE:=zH (show i1 <= rows.length by have:=Fb.out;have:=fl.out;omega)
     go_wp2_with fail
     go_roundw
     case rel=>exact ⟨i1,xs,HEE.out,by rw [fl.out];go_num,klr,ktr,kv,h3',Qa,zh⟩
     case measure=>have:=Fb.out;simp [intOf];omega
  ·obtain rfl:i=rows.length:=by omega
   have q2:¬((rows.length:Int)<(rows.length:Int)):=by omega
   have h0:=h3.1 0 (by omega)
   have h1:=h3.1 1 (by omega)
   have h2:=h3.1 2 (by omega)
   rw [Bk.out] at h0 h1 h2;obtain ⟨A1,c1,e1,h0⟩:=sF h0 (HVT.out 0);obtain ⟨A2,c2,e2,h1⟩:=sF h1 (HVT.out 1);obtain ⟨A3,c3,e3,h2⟩:=sF h2 (HVT.out 2);have hv:=ib aa Zt;have HH:=zH (fun (w':World) (hb:Below wr.heap.size wr w')=>HCut.out V0 (xs 0) (xs 1) (xs 2) (ws.drop s) (vals 0) (vals 1) (vals 2) w' (fun i hi=>by
    rw [e1,e2,e3];rcases (show i=0 \/ i=1 \/ i=2 \/ i=3 by omega) with rfl | rfl | rfl | rfl
    ·exact ib hb hv
    ·exact ib hb h0
    ·exact ib hb h1
    ·exact ib hb h2) (fun i hi=>by
    rcases (show i=0 \/ i=1 \/ i=2 \/ i=3 by omega) with rfl | rfl | rfl | rfl
    ·exact HQ.out.1
    ·exact HQ.out.2 0
    ·exact HQ.out.2 1
    ·exact HQ.out.2 2))
   rw [e1,e2,e3,HV0.out] at kv HH;have cl:=kl.cell;have cv:=kv.cell;have ll:=kl.lt;have lv:=kv.lt;clear h3 h0 h1 h2 hv e1 e2 e3;go_wp2_with fail
   refine (HH.out _ (Below.refl _ _)).mono ?_;rintro e w9 ⟨v,rfl,hov,Aa⟩;go_wp2;go_ret
   exact ⟨_,rfl,hov.mono aa.size,ja aa Aa⟩
def Wb {α:Type} (f:Nat -> α) (k:Nat) (v:α):Nat -> α:=fun j=>if j=k then v else f j
theorem Vk {α:Type} (f:Nat -> α) (k:Nat) (v:α):Wb f k v k=v:=if_pos rfl
theorem Tf {α:Type} (f:Nat -> α) {k:Nat} (v:α) {j:Nat} (h:j≠k):Wb f k v j=f j:=if_neg h
structure OwnF (N:Nat) (w:World) (M:Nat) (ty:Nat -> TypeId) (xs:Nat -> Value) (n:Nat -> Nat) (vs:Nat -> List Value):Prop where
 own:∀ j,j<M -> w.ownsRow N (ty j) 1 (xs j) (n j) (vs j)
 apart:∀ j i,j<M -> i<M -> j≠i -> ∀ q,(xs j).ownBlock=some q -> (xs i).ownBlock=some q -> False
section
variable {N M:Nat} {w w':World} {ty:Nat -> TypeId} {xs:Nat -> Value} {n:Nat -> Nat} {vs:Nat -> List Value}
theorem OwnF.below (h:OwnF N w M ty xs n vs) (hb:Below w.heap.size w w'):OwnF N w' M ty xs n vs :=
 ⟨fun j hj=>db (h.own j hj) hb zR,h.apart⟩
theorem OwnF.stay (h:OwnF N w M ty xs n vs) {B:Nat} (hg:w.grownBy w' (some B)) (hB:B<N):OwnF N w' M ty xs n vs :=
 ⟨fun j hj=>Ze (h.own j hj) hg hB,h.apart⟩
theorem OwnF.app (h:OwnF N w M ty xs n vs) {k:Nat} (hk:k<M) {x:Value} {m:Nat} {l:List Value} (ho:w'.ownsRow N (ty k) 1 x m l) (hg:w.grownBy w' (xs k).ownBlock) (hb:x.ownBlock=(xs k).ownBlock \/ x.ownBlock=some w.heap.size):OwnF N w' M ty (Wb xs k x) (Wb n k m) (Wb vs k l):=by
 refine ⟨fun j hj=>?_,fun j i hj hi Ka q h1 h2=>?_⟩
 ·by_cases e:j=k
  ·subst e;simp only [Vk];exact ho
  ·simp only [Tf _ _ e]
   exact tJ (h.own j hj) hg fun q h1 h2=>h.apart j k hj hk e q h1 h2
 ·by_cases e:j=k
  ·subst e
   have e2:i≠j:=fun e2=>Ka e2.symm
   rw [Vk] at h1;rw [Tf _ _ e2] at h2;exact vA (h.own i hi) (h.apart j i hj hi Ka) hb q h1 h2
  ·rw [Tf _ _ e] at h1
   by_cases e2:i=k
   ·subst e2
    rw [Vk] at h2;exact vA (h.own j hj) (h.apart i j hi hj (fun e=>Ka e.symm)) hb q h2 h1
   ·rw [Tf _ _ e2] at h2
    exact h.apart j i hj hi Ka q h1 h2
theorem OwnF.new (h:OwnF N w M ty xs n vs) (hb:Below w.heap.size w w') {x:Value} {m:Nat} {l:List Value} (ho:w'.ownsRow w.heap.size (ty M) 1 x m l) (hN:N <= w.heap.size):OwnF N w' (M+1) ty (Wb xs M x) (Wb n M m) (Wb vs M l):=by
 refine ⟨fun j hj=>?_,fun j i hj hi Ka q h1 h2=>?_⟩
 ·by_cases e:j=M
  ·subst e;simp only [Vk];exact mg ho hN
  ·simp only [Tf _ _ e]
   exact db (h.own j (by omega)) hb zR
 ·by_cases e:j=M
  ·subst e
   have e2:i≠j:=fun e2=>Ka e2.symm
   rw [Vk] at h1;rw [Tf _ _ e2] at h2;have a:=(ho.lt q h1).1;have b:=((h.own i (by omega)).lt q h2).2
   omega
  ·rw [Tf _ _ e] at h1
   by_cases e2:i=M
   ·subst e2
    rw [Vk] at h2;have a:=(ho.lt q h2).1;have b:=((h.own j (by omega)).lt q h1).2
    omega
   ·rw [Tf _ _ e2] at h2
    exact h.apart j i (by omega) (by omega) Ka q h1 h2
end
def tyF:Nat -> TypeId
 | 0=>28
 | 1=>22
 | 2=>28
 | _=>22
theorem oG {K:Nat -> Prop} {g N:Nat} {w u:World} (h:mi g N w u) (hK:∀ b,K b -> b<N /\ b≠g):Vf K w u:=⟨h.1,h.2.1,h.2.2.1,h.2.2.2.1,fun b hb _=>h.2.2.2.2 b (hK b hb).1 (hK b hb).2⟩
theorem aP {l:List Nat} {i:Nat} (h:i<l.length):(sg (Hh l))[i]?=some (.int .i64 ((l.getD i 0:Nat):Int)):=by
 rw [List.getD_eq_getElem?_getD,List.getElem?_eq_getElem h];simp [sg,Hh,h]
theorem CK {α:Type} (f:Nat -> α) {l:List Nat} {i:Nat} (h:i<l.length):(l.take i).map f++[f (l.getD i 0)]=(l.take (i+1)).map f:=by
 rw [List.take_succ_eq_append_getElem h,List.map_append,List.getD_eq_getElem?_getD,List.getElem?_eq_getElem h]
 rfl
theorem OP {w:World} {base n c:Nat} {e:TypeId} {A:Option Addr} {xs:List Value} (h:w.ownsRow base e 1 (.slice A n c) n xs):Rd w 1 A n xs:=by
 obtain ⟨A',c',he,-,-,hr,-⟩:=Tb h
 injection he with e1 e2 e3
 subst e1;exact hr
theorem qN {w:World} {g:Nat} (x y z:Value):w.grownBy (((w.setCell ⟨g,1,none⟩ x).setCell ⟨g,2,none⟩ y).setCell ⟨g,3,none⟩ z) (some g):=by
 iterate 3 refine Yd ?_ (.inl rfl) _
 exact Lc w _
theorem SP {N n:Nat} {w:World} {gb:Option Nat} {e:TypeId} {x:Value} {l:List Nat} (h:w.ownsRow N e 1 x n (Ca l)) (hl:∀ y∈l,y<18446744073709551616) (Ka:∀ q,x.ownBlock=some q -> gb=some q -> False):df N gb w x l:=by
 intro u hu;have ho:=zg (u:=u) h fun b hb=>hu b (h.lt b hb).1 (h.lt b hb).2 fun e=>Ka b hb e.symm
 obtain ⟨A,c,rfl,-⟩:=Tb ho;exact Fh ho hl
def xy (B:Nat) (w0:World) (cs:List Value) (l:List (List Nat)):Prop:=cs.length=l.length /\ ∀ (i:Nat) (h1:i<cs.length) (h2:i<l.length),df B none w0 cs[i] l[i]
theorem xP (B:Nat) (w0:World):xy B w0 [] []:=⟨rfl,fun i h=>by simp at h⟩
theorem uP {B:Nat} {w0:World} {cs:List Value} {l:List (List Nat)} {x:Value} {y:List Nat} (h:xy B w0 cs l) (hx:df B none w0 x y):xy B w0 (cs++[x]) (l++[y]):=by
 obtain ⟨h1,h2⟩:=h;refine ⟨by simp [h1],fun i h3 h4=>?_⟩
 by_cases hi:i<cs.length
 ·rw [List.getElem_append_left hi,List.getElem_append_left (by omega)]
  exact h2 i hi (by omega)
 ·have e:i=cs.length:=by simp at h3;omega
  subst e;simp only [List.getElem_append_right zR,Nat.sub_self,List.getElem_cons_zero];rw [List.getElem_append_right (by omega)]
  simp only [h1,Nat.sub_self,List.getElem_cons_zero];exact hx
theorem vP {B:Nat} {w0 w:World} {base n:Nat} {e:TypeId} {v:Value} {cs:List Value} {l:List (List Nat)} (h:xy B w0 cs l) (hs:w0.heap.size <= w.heap.size) (hw:∀ b,B <= b -> b<w0.heap.size -> w.heap[b]?=w0.heap[b]?) (ho:w.ownsRow base e 1 v n cs) (bn:w0.heap.size <= base) (hB:B <= w0.heap.size):RRx B w v l:=by
 refine rF (N:=B) ⟨h.1,fun i h1 h2 u hu=>?_⟩ ho zR (by omega)
 refine h.2 i h1 h2 u fun b b1 b2 _=>(hu b b1 (by omega) fun e2=>?_).trans (hw b b1 b2)
 have:=(ho.lt b e2.symm).1;omega
structure InvP (pos:List Nat) (cols:List (List Nat)) (sa:List Nat) (pf:Nat -> List Nat) (dd B:Nat) (w7:World) (i:Nat) (xs:Nat -> Value) (nn:Nat -> Nat) (vs:Nat -> List Value):Prop where
 n0:nn 0=i
 n1:nn 1=i
 n2:nn 2=i
 s:vs 1=Ca ((pos.take i).map fun k=>sa.getD k 0)
 c:xy B w7 (vs 0) ((pos.take i).map fun k=>cols.getD k [])
 p:vs 2=(List.range i).map fun k=>xs (k+3)
 r:∀ k,k<i -> nn (k+3)=dd /\ vs (k+3)=Ca (pf (pos.getD k 0))
theorem InvP.step {pos:List Nat} {cols:List (List Nat)} {sa:List Nat} {pf:Nat -> List Nat} {dd B:Nat} {w7:World} {i:Nat} {xs:Nat -> Value} {nn:Nat -> Nat} {vs:Nat -> List Value} (h:InvP pos cols sa pf dd B w7 i xs nn vs) (hi:i<pos.length) {z sz:Nat} (hz:z=pos.getD i 0) {a b c p ec:Value} (hc:df B none w7 ec (cols.getD z [])) (hs:sz=sa.getD z 0) :
  InvP pos cols sa pf dd B w7 (i+1) (Wb (Wb (Wb (Wb xs 0 a) 1 b) (i+3) p) 2 c) (Wb (Wb (Wb (Wb nn 0 (nn 0+1)) 1 (nn 1+1)) (i+3) dd) 2 (nn 2+1)) (Wb (Wb (Wb (Wb vs 0 (vs 0++[ec])) 1 (vs 1++[.int .u64 sz])) (i+3) (Ca (pf z))) 2 (vs 2++[p])):=by
 have f3:∀ {α:Type} (f:Nat -> α) (x0 x1 x2 x3:α),Wb (Wb (Wb (Wb f 0 x0) 1 x1) (i+3) x3) 2 x2 0=x0 /\ Wb (Wb (Wb (Wb f 0 x0) 1 x1) (i+3) x3) 2 x2 1=x1 /\ Wb (Wb (Wb (Wb f 0 x0) 1 x1) (i+3) x3) 2 x2 2=x2 /\ Wb (Wb (Wb (Wb f 0 x0) 1 x1) (i+3) x3) 2 x2 (i+3)=x3 /\ ∀ k,k<i -> Wb (Wb (Wb (Wb f 0 x0) 1 x1) (i+3) x3) 2 x2 (k+3)=f (k+3):=fun f x0 x1 x2 x3=>by
  refine ⟨?_,?_,?_,?_,fun k hk=>?_⟩
  ·rw [Tf _ _ (by omega),Tf _ _ (by omega),Tf _ _ (by omega),Vk]
  ·rw [Tf _ _ (by omega),Tf _ _ (by omega),Vk]
  ·rw [Vk]
  ·rw [Tf _ _ (by omega),Vk]
  ·rw [Tf _ _ (by omega),Tf _ _ (by omega),Tf _ _ (by omega),Tf _ _ (by omega)]
 have fn:=f3 nn (nn 0+1) (nn 1+1) (nn 2+1) dd;have fv:=f3 vs (vs 0++[ec]) (vs 1++[.int .u64 sz]) (vs 2++[p]) (Ca (pf z));have fx:=f3 xs a b c p;refine ⟨?_,?_,?_,?_,?_,?_,fun k hk=>?_⟩
 ·rw [fn.1,h.n0]
 ·rw [fn.2.1,h.n1]
 ·rw [fn.2.2.1,h.n2]
 ·rw [fv.2.1,h.s,<- CK _ hi,<- hz,<- hs]
  simp [Ca]
 ·rw [fv.1,<- CK _ hi,<- hz]
  exact uP h.c hc
 ·rw [fv.2.2.1,h.p,List.range_succ,List.map_append]
  congr 1
  ·exact List.map_congr_left fun k hk=>(fx.2.2.2.2 k (List.mem_range.1 hk)).symm
  ·simp only [List.map_cons,List.map_nil]
   rw [fx.2.2.2.1]
 ·by_cases e:k=i
  ·subst e
   rw [fn.2.2.2.1,fv.2.2.2.1,hz];exact ⟨rfl,rfl⟩
  ·rw [fn.2.2.2.2 k (by omega),fv.2.2.2.2 k (by omega)]
   exact h.r k (by omega)
theorem FQ {N i dd:Nat} {u:World} {xs:Nat -> Value} {nn:Nat -> Nat} {vs:Nat -> List Value} {pos:List Nat} {pf:Nat -> List Nat} (Rb:OwnF N u (i+3) tyF xs nn vs) (hp:vs 2=(List.range i).map fun k=>xs (k+3)) (hr:∀ k,k<i -> nn (k+3)=dd /\ vs (k+3)=Ca (pf (pos.getD k 0))) (hl:pos.length=i) (oa:∀ z,∀ y∈pf z,y<18446744073709551616):Qd u [xs 2] (pos.map pf):=by
 refine DD (N:=N) (w:=u) (cs:=vs 2) ⟨by rw [hp];simp [hl],fun k h1 h2=>?_⟩ (Rb.own 2 (by omega))
 have hk:k<i:=by rw [hp] at h1;simpa using h1
 have e1:(vs 2)[k]=xs (k+3):=by
  have:(vs 2)[k]?=some (xs (k+3)):=by rw [hp];simp [hk]
  rw [List.getElem?_eq_getElem h1] at this;exact Option.some.inj this
 have e2:(pos.map pf)[k]=pf (pos.getD k 0):=by
  rw [List.getElem_map,List.getD_eq_getElem?_getD,List.getElem?_eq_getElem (by omega)]
  rfl
 rw [e1,e2];have ho:=Rb.own (k+3) (by omega)
 rw [(hr k hk).1,(hr k hk).2] at ho;exact SP ho (oa _) fun q h1 h2=>Rb.apart (k+3) 2 (by omega) (by omega) (by omega) q h1 h2
theorem dR {w w7 w16 wr wf:World} {F F4:Nat -> Prop} {gP N R:Nat} (hb:Below w.heap.size w w7) (hF:∀ j,F j -> j<w.heap.size) (m:Moved F F4 w7 w16) (hN5:N <= w16.heap.size) (Gk:w16.heap.size <= N) (hgP:w7.heap.size <= gP) (hgN:gP<N) (hR:w.heap.size <= R) (hR7:R<w7.heap.size)
  (tb:mi gP N w16 wr) (ff:N <= wr.heap.size) (Wv:∀ j,j≠R -> wf.heap[j]?=wr.heap[j]?) (hfs:wf.heap.size=wr.heap.size) (ho:wf.os=wr.os /\ wf.tape=wr.tape /\ wf.output=wr.output) (h16:∀ j,F4 j -> j<w16.heap.size) (nP4:¬F4 gP) :
  (∀ j,F4 j -> wf.heap[j]?=w16.heap[j]?) /\ w16.heap.size <= wf.heap.size /\ Moved F F4 w wf /\ ∀ u,Vf (fun b=>w.heap.size <= b /\ b<wf.heap.size /\ ¬F4 b) wf u ->
   (∀ j,w.heap.size <= j -> j<N -> j≠gP -> j≠R -> ¬F4 j -> u.heap[j]?=w16.heap[j]?) /\ (∀ j,N <= j -> j<wr.heap.size -> u.heap[j]?=wr.heap[j]?) /\ (∀ j,R<j -> j<w7.heap.size -> u.heap[j]?=w7.heap[j]?) /\ w7.heap.size <= u.heap.size:=by
 have s1:=hb.size;have s2:=m.size;have hA:∀ j,j<N -> j≠gP -> j≠R -> wf.heap[j]?=w16.heap[j]?:=fun j h1 h2 h3=>(Wv j h3).trans (tb.2.2.2.2 j h1 h2)
 have hB7:∀ j,j<w7.heap.size -> ¬F j -> j≠R -> wf.heap[j]?=w7.heap[j]?:=fun j h1 h2 h3=>(hA j (by omega) (by omega) h3).trans (m.block j h1 h2)
 refine ⟨fun j hj=>hA j (by have:=h16 j hj;omega) (fun e=>nP4 (e ▸ hj)) (fun e=>?_),by omega,⟨ho.1.trans (tb.1.trans (m.os.trans hb.os)),ho.2.1.trans (tb.2.1.trans (m.tape.trans hb.tape)),ho.2.2.trans (tb.2.2.1.trans (m.output.trans hb.output)),by omega,fun j h1 h2=>(hB7 j (by omega) h2 (by omega)).trans (hb.block j h1),fun j hj=>(m.foot j hj).imp id fun h=>by omega⟩,fun u a=>⟨fun j h1 h2 h3 h4 h5=>(a.block j ⟨h1,by omega,h5⟩ (by omega)).trans (hA j h2 h3 h4),fun j h1 h2=>(a.block j ⟨by omega,by omega,fun e=>by have:=h16 j e;omega⟩ (by omega)).trans (Wv j (by omega)),fun j h1 h2=>?_,by have:=a.size;omega⟩⟩
 ·rcases m.foot j hj with h | h
  ·have:=hF j h;omega
  ·omega
 ·refine (a.block j ⟨by omega,by omega,fun e=>?_⟩ (by omega)).trans (hB7 j h2 (fun e=>by have:=hF j e;omega) (by omega))
  rcases m.foot j e with h | h
  ·have:=hF j h;omega
  ·omega
theorem MO {i Q:Nat} (h:i<Q):Q-(intOf (.int .i64 ((i+1:Nat):Int))).toNat<Q-(intOf (.int .i64 i)).toNat:=by
 simp only [intOf,Int.toNat_natCast];omega
theorem oK (g:Nat):∀ (xs:List Value) (k:Nat) (w:World),(ng w g xs k).heap.size=w.heap.size /\ (ng w g xs k).os=w.os /\ (ng w g xs k).tape=w.tape /\ (ng w g xs k).output=w.output
 | [],_,_=>⟨rfl,rfl,rfl,rfl⟩
 | x :: xs,k,w=>by
  have h:=oK g xs (k+1) (w.setCell ⟨g,k,none⟩ x);exact ⟨h.1.trans (by simp [World.setCell]),h.2.1.trans rfl,h.2.2.1.trans rfl,h.2.2.2.trans rfl⟩
theorem TS {w:World} {g:Nat} {t:TypeId} {y0 y1 y2 y3 y4 y5 y6:Value} (k:Blk w g t #[y0,y1,y2,y3,y4,y5,y6]) (x0 x1 x2 x3 x4 x5 x6:Value):∃ wf,(((((((w.setCell ⟨g,0,none⟩ x0).setCell ⟨g,1,none⟩ x1).setCell ⟨g,2,none⟩ x2).setCell ⟨g,3,none⟩ x3).setCell ⟨g,4,none⟩ x4).setCell ⟨g,5,none⟩ x5).setCell ⟨g,6,none⟩ x6)=wf /\ Blk wf g t #[x0,x1,x2,x3,x4,x5,x6] /\ (∀ j,j≠g -> wf.heap[j]?=w.heap[j]?) /\ wf.heap.size=w.heap.size /\ wf.os=w.os /\ wf.tape=w.tape /\ wf.output=w.output :=
 ⟨_,rfl,Sw [x0,x1,x2,x3,x4,x5,x6] k rfl,fun _ hj=>Xr (fun e=>hj e) [x0,x1,x2,x3,x4,x5,x6] 0 w,oK g [x0,x1,x2,x3,x4,x5,x6] 0 w⟩
theorem eR {w7 w16 wr u:World} {F4:Nat -> Prop} {gP N R B0 B6 B13 B15 i k1 k2 k3:Nat} {x:PvIn} {O:La} {cd ln qd pos:List Nat} {tr:List (List Nat)} {P1 P2 P3 Ac As Ap:Option Addr} {p1 p2 p3 ca cs cp:Nat} {xs:Nat -> Value} {nn:Nat -> Nat} {vs:Nat -> List Value}
  (hU:∀ j,B0 <= j -> j<N -> j≠gP -> j≠R -> ¬F4 j -> u.heap[j]?=w16.heap[j]?) (hV:∀ j,N <= j -> j<wr.heap.size -> u.heap[j]?=wr.heap[j]?) (hW:∀ j,R<j -> j<w7.heap.size -> u.heap[j]?=w7.heap[j]?) (hus:w7.heap.size <= u.heap.size)
  (b0:B0 <= B13) (b1:R<B13) (b2:gP<B13) (b3:B15 <= N) (b4:R<B6) (b5:B6 <= w7.heap.size) (b6:w7.heap.size <= N) (n1:∀ b,B13 <= b -> b<B15 -> ¬F4 b)
  (o1:w16.ownsRow B13 22 1 (.slice P1 k1 p1) k1 (Ca cd)) (o2:w16.ownsRow B13 22 1 (.slice P2 k2 p2) k2 (Ca ln)) (o3:w16.ownsRow B13 22 1 (.slice P3 k3 p3) k3 (Ca qd))
  (l1:(∀ b,(Value.slice P1 k1 p1).ownBlock=some b -> B13 <= b /\ b<B15) /\ (∀ b,(Value.slice P2 k2 p2).ownBlock=some b -> B13 <= b /\ b<B15) /\ ∀ b,(Value.slice P3 k3 p3).ownBlock=some b -> B13 <= b /\ b<B15)
  (c1:∀ y∈cd,y<18446744073709551616) (c2:∀ y∈ln,y<18446744073709551616) (c3:∀ y∈qd,y<18446744073709551616) (Ov:cd=x.code (x.ch O).al) (Bf:ln=x.lin (x.ch O).rh) (hqd:qd=x.quad (x.ch O).be)
  (Rb:OwnF N wr (i+3) tyF xs nn vs) (Pb:InvP pos x.cols x.l4 (fun z=>yj tr z) x.dd B6 w7 i xs nn vs) (Wh:pos.length=i) (ur:pos=x.pos O) (zp:tr=x.tree O) (e0:xs 0= .slice Ac i ca) (e1:xs 1= .slice As i cs) (e2:xs 2= .slice Ap i cp)
  (fB:x.root O<Xa) (hsa:Sd x.l4=true) (Wt:∀ r∈x.tree O,∀ y∈r,y<Xa) :
  Xg u (x.pr O) ⟨P1,k1,p1,P2,k2,p2,P3,k3,p3,Ac,i,ca,As,i,cs,Ap,i,cp⟩:=by
 have XD:OwnF N u (i+3) tyF xs nn vs:=⟨fun j hj=>zg (Rb.own j hj) fun b hb=>hV b ((Rb.own j hj).lt b hb).1 ((Rb.own j hj).lt b hb).2,Rb.apart⟩
 have htk:pos.take i=pos:=List.take_of_length_le (by omega)
 refine ⟨Ti fB,?_,?_,?_,?_,?_,?_⟩
 ·show RWd u [.slice P1 k1 p1] (x.code (x.ch O).al)
  rw [<- Ov];exact Fh (zg o1 fun b hb=>by have h1:=l1.1 b hb;exact hU b (by omega) (by omega) (by omega) (by omega) (n1 b h1.1 h1.2)) c1
 ·show RWd u [.slice P2 k2 p2] (x.lin (x.ch O).rh)
  rw [<- Bf];exact Fh (zg o2 fun b hb=>by have h1:=l1.2.1 b hb;exact hU b (by omega) (by omega) (by omega) (by omega) (n1 b h1.1 h1.2)) c2
 ·show RWd u [.slice P3 k3 p3] (x.quad (x.ch O).be)
  rw [<- hqd];exact Fh (zg o3 fun b hb=>by have h1:=l1.2.2 b hb;exact hU b (by omega) (by omega) (by omega) (by omega) (n1 b h1.1 h1.2)) c3
 ·show RSl 1 RWd u [.slice Ac i ca] ((x.pos O).map fun k=>x.cols.getD k [])
  rw [<- ur,<- e0];have hc:=Pb.c;rw [htk] at hc;exact (vP hc hus (fun b h1 h2=>hW b (by omega) h2) (XD.own 0 (by omega)) b6 b5).here
 ·show RWd u [.slice As i cs] ((x.pos O).map fun k=>x.l4.getD k 0)
  rw [<- ur];have ho:=XD.own 1 (by omega)
  have hs:=Pb.s;rw [htk] at hs;rw [e1,Pb.n1,hs] at ho;exact Fh ho fun y hy=>by
   obtain ⟨k,-,rfl⟩:=List.mem_map.1 hy;exact Ti (BD (fun y hy=>of_decide_eq_true (List.all_eq_true.1 hsa y hy)) k)
 ·show RSl 1 RWd u [.slice Ap i cp] ((x.pos O).map fun k=>yj (x.tree O) k)
  rw [<- ur,<- zp,<- e2];exact FQ (pf:=fun z=>yj tr z) XD Pb.p Pb.r Wh fun z y hy=>Ti (DQ (by rw [zp];exact Wt) z y hy)
theorem II {p:Nat} {n:Int} {l:List (Int × Nat)} (h:ue p n l=true) {i:Nat} (hi:i<l.length):tj p n l i=false:=by
 unfold ue at h;have h1:=List.all_eq_true.1 h i (List.mem_range.2 hi)
 simpa using h1
theorem zE {p:Nat} {n:Int} {l:List (Int × Nat)} (h:ue p n l=true):∀ i,i<l.length -> (i:Int) <= (l.getD i (0,0)).1 /\ (l.getD i (0,0)).1<n /\ (l.getD i (0,0)).2<p
 | 0,hi=>by
  have h1:=II h hi;unfold tj at h1;simp only [Bool.or_eq_false_iff,decide_eq_false_iff_not,Bool.and_eq_false_iff] at h1;omega
 | i+1,hi=>by
  have h1:=II h hi;have h2:=zE h i (by omega)
  unfold tj at h1;simp only [Bool.or_eq_false_iff,decide_eq_false_iff_not,Bool.and_eq_false_iff,Nat.add_sub_cancel] at h1;omega
theorem AE {p:Nat} {n:Int} {l:List (Int × Nat)} (h:ue p n l=true) (hn:0 <= n):(l.length:Int) <= n:=by
 by_cases hl:l.length=0
 ·omega
 ·have:=zE h (l.length-1) (by omega)
  omega
theorem BE {p:Nat} {n:Int} {l:List (Int × Nat)} (h:ue p n l=true):∀ t∈l,0 <= t.1 /\ t.1<n /\ t.2<p:=fun t ht=>by
 obtain ⟨i,hi,rfl⟩:=List.getElem_of_mem ht;have:=zE h i hi;rw [List.getD_eq_getElem?_getD,List.getElem?_eq_getElem hi] at this;simp only [Option.getD_some] at this;omega
theorem AK {p:Nat} {pub vars:Int} {rows:List Ya} (h:Gb p pub vars rows=true):∀ r∈rows,ue p vars r.a=true /\ ue p vars r.b=true /\ ue p vars r.c=true:=fun r hr=>by
 unfold Gb at h;rw [Bool.and_eq_true] at h;have h1:=List.all_eq_true.1 h.2 r hr;unfold qh at h1;rw [Bool.and_eq_true,Bool.and_eq_true] at h1;exact ⟨h1.1.1,h1.1.2,h1.2⟩
theorem Lz {p:Nat} {pub vars:Int} {rows:List Ya} (h:Gb p pub vars rows=true):0 <= pub /\ pub<vars /\ vars <= 65536 /\ rows.length <= 16384:=by
 simp only [Gb,Bool.and_eq_true,Bool.not_eq_true',decide_eq_false_iff_not] at h;omega
theorem BK {p:Nat} {pub vars:Int} {rows:List Ya} (h:Gb p pub vars rows=true):xF rows:=fun r hr=>by
 have h1:=AK h r hr;have h2:=Lz h;have a1:=AE h1.1 (by omega)
 have a2:=AE h1.2.1 (by omega)
 have a3:=AE h1.2.2 (by omega)
 omega
theorem AI:∀ (rows:List Ya),(rows.flatMap Lx).length=3*rows.length+2*xu rows
 | []=>rfl
 | r :: rows=>by
  have h1:=AI rows;rw [List.flatMap_cons,List.length_append,h1];simp only [Lx,Gp,Dd,List.length_append,List.length_cons,BI,xu,List.map_cons,List.sum_cons];simp
  omega
theorem YG {p:Nat} {pub vars:Int} {rows:List Ya} (h:Gb p pub vars rows=true) (hs:nA rows):Du p pub vars rows where
 pl:=(nc (wu h)).2
 pubI:=by have:=Lz h;omega
 varI:=by have:=Lz h;omega
 n:=(Lz h).2.2.2
 sides:=fun r hr k hk=>by
  have h1:=BK h r hr;unfold Dd;split
  ·exact h1.1
  ·split
   ·exact h1.2.1
   ·exact h1.2.2
 terms:=fun r hr k hk t ht=>by
  have h1:=AK h r hr;have h2:=Lz h;have h3:=(nc (wu h)).2;unfold Dd at ht;split at ht
  ·have:=BE h1.1 t ht;omega
  ·split at ht
   ·have:=BE h1.2.1 t ht;omega
   ·have:=BE h1.2.2 t ht;omega
 len:=by
  have h1:=hs (BK h);simp only [Fk,List.length_append,List.length_cons,List.length_nil,AI];omega
end Go.Proofs.YtjipleoamlmkfaaGreat
namespace Go.Proofs.YtjipleoamlmkfaaGreat
structure MsgOk (L:Va) (m r:List (List Nat)):Prop where
 ml:m.length=L.a+L.b+L.b+L.b
 rl:r.length=m.length
 mr:∀ x∈m,x.length=L.block
 rr:∀ x∈r,x.length=L.queries
end Go.Proofs.YtjipleoamlmkfaaGreat
namespace Go.Proofs.YtjipleoamlmkfaaGreat
def subN (p a b:Nat):Nat:=(a+xg p b)%p
def cm2 (p a b be:Nat) (f:Nat -> Nat) (e:Nat):Nat -> Nat
 | 0=>e
 | j+1=>subN p (cm2 p a b be f e j) (Pw p be (j+1)*subN p (f (a+j)*f (a+b+j)%p) (f (a+b+b+j))%p)
end Go.Proofs.YtjipleoamlmkfaaGreat
