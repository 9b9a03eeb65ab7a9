/- A part of the proof. No condition. -/
import Derived.Test.YteoghgbnielkpaaGreatTB9
import Derived.Test.YteoghgbnielkpaaGreatTB10
import Derived.Test.YteoghgbnielkpaaGreatTB11
import Derived.Test.YteoghgbnielkpaaGreatTB12

set_option maxRecDepth 100000
set_option maxHeartbeats 8000000
set_option linter.unusedVariables false
set_option linter.unusedSimpArgs false
namespace Go.Proofs.YteoghgbnielkpaaGreat
open Go.RowKit
open Tryz
open Go renaming World->vw, Value->vx, Addr->vy, TypeId->vz, Calls->vB
open Go.Value renaming int->vd, slice->ve
open Go.IntKind renaming u64->vn, i64->vq
open Go.Ending renaming returned->vl
open Go.RowKit renaming Below->vA
open Go.Act renaming put->vG
open Option renaming none->vD, some->vE
def qO (O:Da):Prop:=O.ideal=false -> ∀ q∈O.qs,q.ans=Lo q.lab q.el
theorem E3 {qs:List Qn} {lab:Nat} {el:List Nat} {a:Nat} (h:ze qs lab el=vE a):∃ q∈qs,q.lab=lab /\ q.el=el /\ q.ans=a:=by
 unfold ze at h;rw [Option.map_eq_some_iff] at h;obtain ⟨q,hq,rfl⟩:=h;have h1:=List.find?_some hq;simp only [Nn,Vb,Dh] at h1;exact ⟨q,List.mem_of_find?_eq_some hq,h1.1,h1.2,rfl⟩
theorem zEg {O:Da} (h:qO O) (lab:Nat) (el:List Nat):qO (ld O lab el):=by
 intro hi;rw [U4] at hi;unfold ld;split
 ·split
  ·exact h hi
  ·rw [ya (by rw [hi];exact BB),YE]
   intro q hq;rcases jq.1 hq with hq | hq
   ·exact h hi q hq
   ·rw [Zo] at hq
    subst hq
    rfl
 ·exact h hi
structure Tr where
 O:Da
 st:Nat
 ct:Nat
def Ki (s:Tr) (tag:Nat) (l:List Nat):Tr:=⟨ld s.O 18 (s.st :: tag :: l),De s.O 18 (s.st :: tag :: l),0⟩
def Ju (s:Tr):Nat:=De s.O 19 [s.st,s.ct]
def Jc (s:Tr):Tr:=⟨ld s.O 19 [s.st,s.ct],s.st,s.ct+1⟩
def Zd (O:Da) (L:Na) (dg:Nat) (pub:List Nat):Tr:=Ki ⟨O,20,0⟩ 1 (dg :: L.block :: L.n :: L.queries :: pub)
structure ChR where
 al:Nat
 rh:Nat
 be:Nat
def Bl (s:Tr) (p root:Nat):ChR:=⟨Ju (Ki s 2 [root])%p,Ju (Jc (Ki s 2 [root]))%p,Ju (Jc (Jc (Ki s 2 [root])))%p⟩
def xe (s:Tr) (root:Nat):Tr:=Jc (Jc (Jc (Ki s 2 [root])))
def Rn (s:Tr) (all:List Nat) (n q:Nat):List Nat:=ox (Ki s 3 all).O (Ki s 3 all).st 0 n q
def Xi (s:Tr) (all:List Nat) (q:Nat):Da:=dc (Ki s 3 all).O 19 (Pj (Ki s 3 all).st 0 q)
def RQn (w:vw) (cs:List vx) (q:Qn):Prop:=∃ s,cs=[vd vn q.lab,s,vd vn q.ans] /\ RWd w [s] q.el /\ q.lab<18446744073709551616 /\ q.ans<18446744073709551616
theorem X5:Nz RQn:=fun w w' cs q hb h=>by
 obtain ⟨s,h1,h2,h3⟩:=h;exact ⟨s,h1,Ab hb h2,h3⟩
def RQs:vw -> List vx -> List Qn -> Prop:=RSl 3 RQn
theorem zIu {α:Type} {R:vw -> List vx -> α -> Prop} {sz base n:Nat} {e:vz} {w:vw} {v:vx} {xs:List vx} {l:List α} (h:w.ownsRow base e sz v n xs) (hl:l.length=n)
  (hR:∀ (i:Nat) (hi:i<l.length),R w ((xs.drop (i*sz)).take sz) l[i]):RSl sz R w [v] l:=by
 obtain ⟨A,c,rfl,h1,h2,h3,-⟩:=Ud h;refine ⟨A,n,c,rfl,hl,h1,h2,fun i hi=>?_⟩
 obtain ⟨ad,rfl,hc⟩:=h3.2 zO;have ta:(i+1)*sz <= xs.length:=by rw [h3.1];exact Tz _ zO
 rw [Nat.succ_mul] at ta;refine ⟨ad,(xs.drop (i*sz)).take sz,rfl,by rw [Br,ti];omega,fun j hj=>?_,hR i hi⟩
 rw [List.getElem?_take,Ka hj,List.getElem?_drop,hc _ _ (Qb zO),Qb zO]
theorem fX {w:vw} {A:Option vy} {qs:List Qn} (h:RdL w 3 RQn A qs) {i:Nat} (hi:i<qs.length):∃ b q A1 n1 c1 lq aq qe,qs[i]?=vE qe /\ A=vE ⟨b,q,vD⟩ /\ w.cell? ⟨b,q+i*3,vD⟩=vE (vd vn ((lq:Nat):Int)) /\
  w.cell? ⟨b,q+i*3+1,vD⟩=vE (ve A1 n1 c1) /\ w.cell? ⟨b,q+i*3+2,vD⟩=vE (vd vn ((aq:Nat):Int)) /\ RWd w [ve A1 n1 c1] qe.el /\ b<w.1.size /\ (qe.lab=lq /\ qe.ans=aq /\ lq<18446744073709551616 /\ aq<18446744073709551616):=by
 obtain ⟨b,q,rfl⟩:=h.base zO zO;obtain ⟨cs,-,hc,s,rfl,hs,Ia,Ba⟩:=h.get hi;have c0:=hc 0 zO;have c1:=hc 1 zO;have c2:=hc 2 zO;obtain ⟨A1,n1,pq,Xc,-⟩:=id hs
 injection Xc with Xc _
 subst Xc;have Gb:=Gf _ _ c1;exact ⟨b,q,A1,n1,pq,qs[i].lab,qs[i].ans,qs[i],Qb hi,rfl,c0,c1,c2,hs,Gb,rfl,rfl,Ia,Ba⟩
def Cl (w:vw) (g:Nat):List vx -> Nat -> vw
 | [],_=>w
 | x :: r,k=>Cl (w.setCell ⟨g,k,vD⟩ x) g r (k+1)
theorem zA2 {g:Nat} {t:vz}:∀ (xs:List vx) (k:Nat) (w:vw) (cs:List vx),Blk w g t cs.toArray -> k+xs.length=cs.length -> Blk (Cl w g xs k) g t (cs.take k++xs).toArray
 | [],k,w,cs,h,hk=>by
  rw [List.append_nil,VE (by simp at hk;omega)]
  exact h
 | x :: r,k,w,cs,h,hk=>by
  simp only [Jg] at hk;have h1:=h.set_ k x;rw [Fa] at h1;have:=zA2 r (k+1) (w.setCell ⟨g,k,vD⟩ x) (cs.set k x) h1 (by rw [List.length_set];omega)
  have e:(cs.set k x).take (k+1)=cs.take k++[x]:=by
   rw [Lv (by rw [List.length_set];omega),List.getElem_set_self,List.take_set_of_le zR]
  rw [e,iq] at this;exact this
theorem ZD {g:Nat} {t:vz} {w:vw} {cs:Array vx} (xs:List vx) (h:Blk w g t cs) (hk:xs.length=cs.size):Blk (Cl w g xs 0) g t xs.toArray:=by
 have:=zA2 xs 0 w cs.toList (by simpa using h) (by simpa using hk)
 simpa using this
theorem QR {g N:Nat} (hg:N <= g):∀ (xs:List vx) (k:Nat) (w:vw),vA N w (Cl w g xs k)
 | [],_,w=>tb _ w
 | x :: r,k,w=>((tb N w).setCell (p:=⟨g,k,vD⟩) hg x).trans (QR hg r (k+1) _)
theorem zA3 {g:Nat}:∀ (xs:List vx) (k:Nat) (w:vw),Vk g w (Cl w g xs k)
 | [],_,w=>(oe g).refl w
 | x :: r,k,w=>zM (oe g) (show Vk g w (w.setCell ⟨g,k,vD⟩ x) from mh (Ce w _) (.inl rfl) x) (zA3 r (k+1) _)
theorem iB {g b:Nat} (hb:b≠g):∀ (xs:List vx) (k:Nat) (w:vw),(Cl w g xs k).1[b]?=w.1[b]?
 | [],_,_=>rfl
 | x :: r,k,w=>(iB hb r (k+1) _).trans (wg w ⟨g,k,vD⟩ x b hb)
theorem Gr {x:Nat} (h:x<Bb):x<18446744073709551616:=by unfold Bb at h;omega
theorem zIR {g N:Nat} {w0 w:vw} {xs:List vx} (h:vA N w0 w) (hg:N <= g):vA N w0 (Cl w g xs 0):=h.trans (QR hg xs 0 w)
theorem zFV {F F':Nat -> Prop} {w w':vw} (h:Moved F F' w w') {N:Nat} {V0:Nat -> Prop} (hN:N <= w.1.size) (hV:∀ b,b<N -> F b -> V0 b):∀ b,b<N -> F' b -> V0 b:=fun b hb hf=>by
 rcases h.foot b hf with e | e
 ·exact hV b hb e
 ·omega
structure Un (V0:Nat -> Prop) (N:Nat) (V:Nat -> Prop) (w:vw):Prop where
 size:N <= w.1.size
 lt:∀ b,V b -> b<w.1.size
 old:∀ b,b<N -> V b -> V0 b
theorem LK {V0 V V':Nat -> Prop} {N:Nat} {w w':vw} (h:Un V0 N V w) (m:Moved V V' w w') (ta:∀ b,V' b -> b<w'.1.size):Un V0 N V' w':=⟨zb h.size m.size,ta,zFV m h.size h.old⟩
theorem Ru {V0 V:Nat -> Prop} {N:Nat} {w w':vw} (h:Un V0 N V w) (m:vA w.1.size w w'):Un V0 N V w':=⟨zb h.size m.size,fun b hb=>pd (h.lt b hb) m.size,h.old⟩
theorem zEC {V:Nat -> Prop} {w:vw} (ta:∀ b,V b -> b<w.1.size):Un V w.1.size V w:=⟨zR,ta,fun _ _ h=>h⟩
theorem tI {V0 V V':Nat -> Prop} {N:Nat} {w w':vw} (h:Un V0 N V w) (m:Moved V V' w w'):Zi V0 N w w':=vU m h.size h.old
section
variable {P:Program} {l:List Oper} {hs tail:List Nat} {Q:Exit -> Act -> vw -> Prop} {V0 V:Nat -> Prop} {N j:Nat} {t:vz} {z:Array vx} {rest:List Nat} {i:Nat} {o:Oper} {Aa:Array Bool} {a:Act} {w:vw}
end
def eK:List Nat -> List (List Nat)
 | []=>[[]]
 | j :: js=>eK js++(eK js).map (j :: ·)
theorem OQ (f:Nat -> Bool):∀ js:List Nat,js.filter f∈eK js
 | []=>by simp [eK]
 | j :: js=>by
  rw [eK,jq];cases h:f j
  ·rw [JH (by rw [h];exact BB)]
   exact .inl (OQ f js)
  ·rw [KH h]
   exact .inr (Od.2 ⟨_,OQ f js,rfl⟩)
def Li (L:Array Bool) (S:List Nat):Array Bool:=S.foldl (fun L j=>L.setIfInBounds j true) L
theorem pM:∀ (S:List Nat) (L:Array Bool) (i:Nat),(Li L S)[i]?=if i∈S then L[i]?.map (fun _=>true) else L[i]?
 | [],_,_=>by simp [Li]
 | j :: S,L,i=>by
  show (Li (L.setIfInBounds j true) S)[i]?=_
  rw [pM S,Array.getElem?_setIfInBounds];by_cases e:j=i
  ·subst e
   by_cases hj:j<L.size
   ·simp [hj]
   ·simp [hj]
  ·have e':¬i=j:=fun h=>e h.symm
   simp [e,e']
theorem aT {S:List Nat} {L:Array Bool} {i:Nat} (h:i ∉ S):(Li L S).setIfInBounds i true=Li (L.setIfInBounds i true) S:=by
 refine Array.ext_getElem? fun k=>?_
 have jb:∀ (S:List Nat) (L:Array Bool),(Li L S).size=L.size:=fun S=>by
  induction S with
  | nil=>intro L;rfl
  | cons j S ih=>intro L;show (Li (L.setIfInBounds j true) S).size=_;rw [ih];simp
 rw [Array.getElem?_setIfInBounds,pM,pM,Array.getElem?_setIfInBounds,jb];by_cases e:i=k
 ·subst e
  simp [h]
 ·simp [e]
theorem zCm {J:List Nat} {f f':Nat -> Bool} {L:Array Bool} {j:Nat} (hj:j∈J) (h1:f' j=true) (h2:∀ k,k≠j -> f' k=f k):(Li L (J.filter f)).setIfInBounds j true=Li L (J.filter f'):=by
 refine Array.ext_getElem? fun k=>?_
 have jb:∀ (S:List Nat) (L:Array Bool),(Li L S).size=L.size:=fun S=>by
  induction S with
  | nil=>intro L;rfl
  | cons j S ih=>intro L;show (Li (L.setIfInBounds j true) S).size=_;rw [ih];simp
 rw [Array.getElem?_setIfInBounds,pM,pM,jb];by_cases e:j=k
 ·subst e
  simp only [if_true,wm,hj,h1,true_and];by_cases hs:j<L.size
  ·simp [hs]
  ·simp [hs]
 ·have e':k≠j:=fun h=>e h.symm
  simp only [e,if_false,wm,h2 k e']
structure yE (V:Nat -> Prop) (N:Nat) (w:vw) (js:List (Nat × vz × Array vx)) (f:Nat -> Bool) (gs:Nat -> Nat):Prop where
 blk:∀ x∈js,f x.1=true -> Blk w (gs x.1) x.2.1 x.2.2 /\ N <= gs x.1 /\ ¬V (gs x.1)
 dif:∀ x∈js,∀ y∈js,f x.1=true -> f y.1=true -> x.1≠y.1 -> gs x.1≠gs y.1
def Jo (gs:Nat -> Nat):Nat -> vx:=fun j=>.pointer (vE ⟨gs j,0,vD⟩)
def cH (gs:Nat -> Nat) (j g:Nat):Nat -> Nat:=fun k=>if k=j then g else gs k
theorem zHQ (gs:Nat -> Nat) (j g:Nat):Jo (cH gs j g)=oh (Jo gs) j (.pointer (vE ⟨g,0,vD⟩)):=by
 funext k
 unfold Jo cH oh;split <;> rfl
def DG (l:List Oper) (hs tail js:List Nat):List Nat -> Array Bool -> Bool
 | [],L=>(eK js).all (fun S=>js.all (fun j=>S.contains j)||(!(Region.ready .any l.toArray (Li L S)).isEmpty&&(Region.ready .any l.toArray (Li L S)).all fun k=>js.contains k&&!S.contains k))&&LD l hs tail (Li L js)
 | i :: rest,L=>decide (i<l.length)&&!js.contains i&&(js.all fun j=>Yz l i j) &&
   ((eK js).all fun S=>Region.free .any l.toArray (Li L S) i&&(Region.ready .any l.toArray (Li L S)).contains i&&(!hs.contains i||(Region.ready .any l.toArray (Li L S)).all fun k=>k == i||(js.contains k&&!S.contains k))) &&
   DG l hs tail js rest (L.setIfInBounds i true)
def rL (l:List Oper) (js:List Nat):Bool:=decide js.Nodup&&js.all fun j=>decide (j<l.length)&&js.all fun k=>j == k||(Yd l j).isNone||Yd l j != Yd l k
def zz (P:Program) (l:List Oper) (hs tail:List Nat) (Q:Exit -> Act -> vw -> Prop) (V0:Nat -> Prop) (N:Nat) (js:List (Nat × vz × Array vx)) (order:List Nat) (Aa:Array Bool) (V:Nat -> Prop) (a:Act) (w:vw):Prop :=
 Region.noSelect l.toArray=true -> DG l hs tail (js.map (·.1)) order Aa=true -> rL l (js.map (·.1))=true -> (∀ x∈js,∃ oj,l[x.1]?=vE oj /\ BO P oj x.2.1 x.2.2) ->
  ∀ (f:Nat -> Bool) (gs:Nat -> Nat) (w1:vw),vA w.1.size w w1 -> yE V N w1 js f gs ->
   Tn P l.toArray Q (Zi V0 N) (order.length+((js.map (·.1)).filter fun j=>!f j).length+tail.length) (Li Aa ((js.map (·.1)).filter f)) (ug l (Jo gs) a ((js.map (·.1)).filter f)) w1
section
variable {P:Program} {l:List Oper} {hs tail:List Nat} {Q:Exit -> Act -> vw -> Prop} {V0 V:Nat -> Prop} {N:Nat} {js:List (Nat × vz × Array vx)} {rest:List Nat} {i:Nat} {o:Oper} {Aa:Array Bool} {a:Act} {w:vw}
theorem zEz:yE V N w js (fun _=>false) (fun _=>0):=⟨fun _ _ h=>(nomatch h),fun _ _ _ _ h=>(nomatch h)⟩
theorem zEy {V':Nat -> Prop} {f:Nat -> Bool} {gs:Nat -> Nat} {w1 w2:vw} (h:yE V N w1 js f gs) (hm:Moved V V' w1 w2):yE V' N w2 js f gs :=
 ⟨fun x hx hf=>let ⟨a,b,c⟩:=h.blk x hx hf;⟨a.moved hm c,b,Td hm a.lt c⟩,h.dif⟩
theorem SL {id:Nat} (V0 V:Nat -> Prop) (N:Nat) (hs order:List Nat) (js:List (Nat × vz × Array vx)) (tail:List Nat) (hm:P.follows .mixedOrders=true)
  (Jh:∀ x∈js,∃ oj,l[x.1]?=vE oj /\ BO P oj x.2.1 x.2.2)
  (Xa:(Region.noSelect l.toArray&&order.length+js.length+tail.length == l.length&&DG l hs tail (js.map (·.1)) order (List.replicate l.length false).toArray&&rL l (js.map (·.1)))=true)
  (h:zz P l hs tail Q V0 N js order (List.replicate l.length false).toArray V a w.drew):(Code.region id l.toArray true).wp P Q a w:=by
 simp only [Vb,Dh] at Xa;refine lO (Zi V0 N) hm ?_;have:=h Xa.1.1.1 Xa.1.2 Xa.2 Jh (fun _=>false) (fun _=>0) w.drew (tb _ _) zEz
 have e0:(js.map (·.1)).filter (fun _=>!false)=js.map (·.1):=List.filter_eq_self.2 (fun _ _=>rfl)
 rw [List.filter_eq_nil_iff.2 (fun _ _=>BB),e0,Zm] at this
 rw [<- Xa.1.1.2];rw [<- Xa.1.1.2] at this;exact this
theorem VL {order:List Nat} (h:∀ W,Hid (W=w) -> Zi V0 N w W -> zz P l hs tail Q V0 N js order Aa V a W):zz P l hs tail Q V0 N js order Aa V a w:=h w rfl ((Bc V0 N).refl w)
structure zCk (l:List Oper) (hs js:List Nat) (i:Nat) (L:Array Bool):Prop where
 lt:i<l.length
 nj:i ∉ js
 ap:∀ j∈js,Yz l i j=true
 fr:∀ f:Nat -> Bool,Region.free .any l.toArray (Li L (js.filter f)) i=true
 rd:∀ f:Nat -> Bool,(Region.ready .any l.toArray (Li L (js.filter f))).contains i=true
 hv:hs.contains i=true -> ∀ (f:Nat -> Bool),∀ k∈Region.ready .any l.toArray (Li L (js.filter f)),k=i \/ (k∈js /\ f k=false)
theorem fW {J:List Nat} (h:DG l hs tail J (i :: rest) Aa=true):zCk l hs J i Aa /\ DG l hs tail J rest (Aa.setIfInBounds i true)=true:=by
 unfold DG at h;simp only [Vb,Gl,yo] at h;obtain ⟨⟨⟨⟨h1,h2⟩,h3⟩,h4⟩,h5⟩:=h;rw [fe] at h3 h4;have uF:=fun f:Nat -> Bool=>h4 _ (OQ f J)
 simp only [Vb,Bool.or_eq_true,Gl] at uF;refine ⟨⟨h1,fun hj=>?_,h3,fun f=>(uF f).1.1,fun f=>(uF f).1.2,fun hh f k hk=>?_⟩,h5⟩
 ·rw [TE.2 hj] at h2;cases h2
 ·rcases (uF f).2 with h6 | h6
  ·rw [hh] at h6;cases h6
  ·rw [fe] at h6
   have h7:=h6 k hk;simp only [Bool.or_eq_true,Dh,Vb,Gl,TE] at h7;rcases h7 with h7 | ⟨h7,h8⟩
   ·exact .inl h7
   ·refine .inr ⟨h7,?_⟩
    cases hf:f k
    ·rfl
    ·rw [TE.2 (wm.2 ⟨h7,hf⟩)] at h8;cases h8
structure JsOk (l:List Oper) (J:List Nat):Prop where
 nodup:J.Nodup
 lt:∀ j∈J,j<l.length
 dst:∀ j∈J,∀ k∈J,j≠k -> ∀ t,Yd l j=vE t -> Yd l k≠vE t
theorem zGi {J:List Nat} (h:rL l J=true):JsOk l J:=by
 unfold rL at h;simp only [Vb,yo] at h;have h2:=fe.1 h.2;simp only [Vb,yo] at h2;refine ⟨h.1,fun j hj=>(h2 j hj).1,fun j hj k hk Sa t e e'=>?_⟩
 have h3:=fe.1 (h2 j hj).2 k hk;simp only [Bool.or_eq_true,Dh,ef] at h3;rcases h3 with (h3 | h3) | h3
 ·exact Sa h3
 ·rw [e] at h3;cases h3
 ·exact h3 (e.trans e'.symm)
theorem CM {j:Nat} {oj:Oper} (h:l[j]?=vE oj):Yd l j=oj.dst:=by
 unfold Yd;rw [h]
 rfl
theorem yP (vs:Nat -> vx) (bg:∀ cs b,o.op≠.select cs b) (ho:l[i]?=vE o):∀ (S:List Nat) (a:Act),(∀ j∈S,Yz l i j=true) -> execOp (ug l vs a S).eval o=execOp a.eval o /\ (∀ ops:Array Oper,ops=l.toArray -> Region.wanted o (yielded ops (ug l vs a S).tmps)=Region.wanted o (yielded ops a.tmps))
 | [],_,_=>⟨rfl,fun _ _=>rfl⟩
 | j :: S,a,h=>by
  have hj:=h j zS;have h0:∃ oj,l[j]?=vE oj:=by
   unfold Yz at hj;rw [ho] at hj;cases e:l[j]? with
   | none=>rw [e] at hj;cases hj
   | some oj=>exact ⟨oj,rfl⟩
  obtain ⟨oj,Fi⟩:=h0;obtain ⟨a1,a2,a3⟩:=Oper.apart_spec (bZ hj ho Fi);have ih:=yP vs bg ho S (a.put (Yd l j) (vs j)) fun k hk=>h k (by simp [hk])
  rw [CM Fi] at ih;refine ⟨?_,fun ops hops=>?_⟩
  ·show execOp (ug l vs (a.put (Yd l j) (vs j)) S).eval o=_
   rw [CM Fi];exact ih.1.trans (execOp_put _ bg _ _ _ a3)
  ·show Region.wanted o (yielded ops (ug l vs (a.put (Yd l j) (vs j)) S).tmps)=_
   rw [CM Fi];refine (ih.2 ops hops).trans ?_;subst hops;exact wanted_put _ _ _ _ a3
theorem IW {S:List Nat} {vs:Nat -> vx} {v:vx} (ho:l[i]?=vE o) (h:∀ j∈S,Yz l i j=true):(ug l vs a S).put o.dst v=ug l vs (a.put o.dst v) S:=by
 refine (DW l vs o.dst v S a fun j hj t e e'=>?_).symm
 have hj:=h j hj;cases Fi:l[j]? with
 | none=>unfold Yd at e';rw [Fi] at e';cases e'
 | some oj =>
  obtain ⟨a1,a2,a3⟩:=Oper.apart_spec (bZ hj ho Fi);rw [CM Fi] at e';exact a2 t e e'
theorem vK {J:List Nat} {f:Nat -> Bool} (h:∀ j∈J,Yz l i j=true):∀ j∈J.filter f,Yz l i j=true:=fun j hj=>h j (wm.1 hj).1
theorem zJ5 {v:vx} (ho:l[i]?=vE o) (hw:Region.wanted o (yielded l.toArray a.tmps)=true) (hF:Hid (Un V0 N V w)) (hQ:∀ c a w,Q (.panic c) (a.put o.dst v) w -> Q (.panic c) a w)
  (Tc:∀ w',Zi V0 N w w' -> (execOp a.eval o).run P w'= .ok (.value v) w') (h:zz P l hs tail Q V0 N js rest (Aa.setIfInBounds i true) V (a.put o.dst v) w):zz P l hs tail Q V0 N js (i :: rest) Aa V a w:=by
 intro hn Xa hj Jh f gs w1 hb fl;obtain ⟨C,hr⟩:=fW Xa;have k:=h hn hr hj Jh f gs w1 hb fl;have SF:=C.lt;have e:=xC (h:=SF) ho;subst e;have bg:∀ cs b,l[i].op≠.select cs b:=fun cs b=>Ov hn i l[i] cs b (by rw [qo];exact ho)
 have hx:=yP (a:=a) (Jo gs) bg ho _ (vK (f:=f) C.ap);rw [<- aT (fun hm=>C.nj (wm.1 hm).1),<- IW ho (vK (f:=f) C.ap)] at k
 have:=Qm (a:=ug l (Jo gs) a ((js.map (·.1)).filter f)) i (Bc V0 N) C.lt hn (C.fr f) (C.rd f) hQ (.inl ⟨by rw [hx.2 _ rfl];exact hw,fun w' nD=>by rw [hx.1];exact Tc w' (zM (Bc V0 N) (uk hb hF.out.size) nD)⟩) k
 rwa [show (i :: rest).length+((js.map (·.1)).filter fun j=>!f j).length+tail.length=rest.length+((js.map (·.1)).filter fun j=>!f j).length+tail.length+1 by simp only [Jg];omega]
theorem zJ6 (ho:l[i]?=vE o) (hw:Region.wanted o (yielded l.toArray a.tmps)=false) (hQ:∀ c a w,Q (.panic c) (a.put o.dst undef) w -> Q (.panic c) a w)
  (h:zz P l hs tail Q V0 N js rest (Aa.setIfInBounds i true) V (a.put o.dst undef) w):zz P l hs tail Q V0 N js (i :: rest) Aa V a w:=by
 intro hn Xa hj Jh f gs w1 hb fl;obtain ⟨C,hr⟩:=fW Xa;have k:=h hn hr hj Jh f gs w1 hb fl;have SF:=C.lt;have e:=xC (h:=SF) ho;subst e;have bg:∀ cs b,l[i].op≠.select cs b:=fun cs b=>Ov hn i l[i] cs b (by rw [qo];exact ho)
 have hx:=yP (a:=a) (Jo gs) bg ho _ (vK (f:=f) C.ap);rw [<- aT (fun hm=>C.nj (wm.1 hm).1),<- IW ho (vK (f:=f) C.ap)] at k
 have:=Qm (a:=ug l (Jo gs) a ((js.map (·.1)).filter f)) i (Bc V0 N) C.lt hn (C.fr f) (C.rd f) hQ (.inr ⟨by rw [hx.2 _ rfl];exact hw,rfl⟩) k
 rwa [show (i :: rest).length+((js.map (·.1)).filter fun j=>!f j).length+tail.length=rest.length+((js.map (·.1)).filter fun j=>!f j).length+tail.length+1 by simp only [Jg];omega]
theorem Cx {a b:Prop} (h:a) (s:Imp a b:=by
 (repeat ((first | (apply Imp.via (zJ6 rfl rfl (fun _ _ _ h=>h))) | (apply Imp.via (zJ5 (v:=?_) rfl rfl ic (fun _ _ _ h=>h) ?hr);case hr=>(intro w' hR;(first | have qn:=uU ((Bc _ _).trans _ _ _ ea hR) | skip);go_simp;try with_reducible rfl)));simp only [vG,zLa,zLb,zLc]))
 exact Imp.rfl'):b:=s h
theorem zFM {J:List (Nat × vz × Array vx)} {k:Nat} (h:k∈J.map (·.1)):∃ x∈J,x.1=k:=by
 obtain ⟨x,hx,e⟩:=Od.1 h;exact ⟨x,hx,e⟩
theorem zDq {J:List Nat} {f f':Nat -> Bool} {j:Nat} (hn:J.Nodup) (hj:j∈J) (h0:f j=false) (h1:f' j=true) (h2:∀ k,k≠j -> f' k=f k):(J.filter fun k=>!f k).length=(J.filter fun k=>!f' k).length+1:=by
 induction J with
 | nil=>cases hj
 | cons x J ih =>
  obtain ⟨hx,aD⟩:=List.nodup_cons.1 hn;by_cases e:x=j
  ·subst e
   have:J.filter (fun k=>!f k)=J.filter (fun k=>!f' k):=List.filter_congr fun k hk=>by rw [h2 k (by rintro rfl;exact hx hk)]
   rw [KH (by rw [h0];rfl),JH (by rw [h1];exact BB),this]
   rfl
  ·have yA:j∈J:=by
    rcases Ah.1 hj with h | h
    ·exact absurd h.symm e
    ·exact h
   have:=ih aD yA;cases hf:f x
   ·rw [KH (by rw [hf];rfl),KH (by rw [h2 x e,hf];rfl)]
    simp only [Jg];omega
   ·rw [JH (by rw [hf];exact BB),JH (by rw [h2 x e,hf];exact BB)]
    exact this
theorem o4 {order:List Nat} (hF:Un V0 N V w) (hj:rL l (js.map (·.1))=true) (Jh:∀ x∈js,∃ oj,l[x.1]?=vE oj /\ BO P oj x.2.1 x.2.2) {f:Nat -> Bool} {gs:Nat -> Nat} {w1:vw} (hb:vA w.1.size w w1) (fl:yE V N w1 js f gs) {k:Nat}
  (hk:k∈js.map (·.1)) (hf:f k=false) {fu:Nat} (hfu:order.length+((js.map (·.1)).filter fun j=>!f j).length+tail.length=fu+1)
  (ih:∀ (f':Nat -> Bool) (gs':Nat -> Nat) (w2:vw),((js.map (·.1)).filter fun j=>!f' j).length<((js.map (·.1)).filter fun j=>!f j).length -> vA w.1.size w w2 -> yE V N w2 js f' gs' ->
   Tn P l.toArray Q (Zi V0 N) (order.length+((js.map (·.1)).filter fun j=>!f' j).length+tail.length) (Li Aa ((js.map (·.1)).filter f')) (ug l (Jo gs') a ((js.map (·.1)).filter f')) w2) :
  wpS P l Q (Zi V0 N) k fu (Li Aa ((js.map (·.1)).filter f)) (ug l (Jo gs) a ((js.map (·.1)).filter f)) w1:=by
 have J:=zGi hj;obtain ⟨x,hx,rfl⟩:=zFM hk;obtain ⟨oj,Fi,gj,hmj⟩:=Jh x hx;have ta:=J.lt _ hk;have e:=xC (h:=ta) Fi;subst e;refine ⟨ta,by simp [Region.wanted,gj],?_⟩
 unfold Oper.wp;rw [hmj];have ja:vA w1.1.size w1 (w1.alloc (.cells x.2.2 x.2.1)):=(tb _ w1).alloc zR _;have hVlt:∀ b,V b -> b<w1.1.size:=fun b Sl=>pd (hF.lt b Sl) hb.size
 refine ⟨uk ja (zb hF.size hb.size),?_⟩;have qw:=zDq (f:=f) (f':=fun k=>if k=x.1 then true else f k) J.nodup hk hf (Ka rfl) (fun k Sa=>ya Sa)
 have:=ih (fun k=>if k=x.1 then true else f k) (cH gs x.1 w1.1.size) (w1.alloc (.cells x.2.2 x.2.1)) zO (ma hb ja) ⟨fun y hy hfy=>?_,fun y hy z hz hfy OC Sa=>?_⟩
 ·rw [<- zCm (f:=f) (f':=fun k=>if k=x.1 then true else f k) hk (Ka rfl) (fun k Sa=>ya Sa),zHQ,
   FW l (Jo gs) x.1 _ f (fun k=>if k=x.1 then true else f k) _ a J.nodup hk hf (Ka rfl) (fun k _ Sa=>ya Sa) (fun k XF Sa t e=>J.dst _ hk k XF (fun e=>Sa e.symm) t e),CM Fi] at this
  rwa [show fu=order.length+((js.map (·.1)).filter fun j=>!(if j=x.1 then true else f j)).length+tail.length by omega]
 ·by_cases e:y.1=x.1
  ·have exy:y=x:=by
    refine oK fun Sa=>?_
    obtain ⟨i,hi,rfl⟩:=Ym hx;obtain ⟨i',QF,rfl⟩:=Ym hy;have hnd:=List.pairwise_iff_getElem.1 J.nodup;by_cases c:i<i'
    ·exact hnd i i' (by simpa using hi) (by simpa using QF) c (by simpa using e.symm)
    ·by_cases c':i'<i
     ·exact hnd i' i (by simpa using QF) (by simpa using hi) c' (by simpa using e)
     ·obtain rfl:i=i':=by omega
      exact Sa rfl
   subst exy;have eg:cH gs y.1 w1.1.size y.1=w1.1.size:=Ka rfl;rw [eg];exact ⟨Blk.new w1 y.2.1 y.2.2,zb hF.size hb.size,fun hv=>Nat.lt_irrefl _ (hVlt _ hv)⟩
  ·have eg:cH gs x.1 w1.1.size y.1=gs y.1:=ya e
   rw [eg];rw [ya e] at hfy;obtain ⟨b1,b2,b3⟩:=fl.blk y hy hfy;exact ⟨ia b1 ja,b2,b3⟩
 ·by_cases e1:y.1=x.1
  ·have e2:z.1≠x.1:=fun e2=>Sa (e1.trans e2.symm)
   rw [ya e2] at OC;have:=(fl.blk z hz OC).1.lt;unfold cH;rw [Ka e1,ya e2];omega
  ·rw [ya e1] at hfy
   have hyl:=(fl.blk y hy hfy).1.lt;by_cases e2:z.1=x.1
   ·unfold cH
    rw [ya e1,Ka e2];omega
   ·rw [ya e2] at OC
    unfold cH;rw [ya e1,ya e2];exact fl.dif y hy z hz hfy OC Sa
theorem zB9 {fuel:Nat} {L:Array Bool} {w:vw} (M:Pd (Zi V0 N)) (Sa:Region.ready .any l.toArray L≠[]) (h:∀ k∈Region.ready .any l.toArray L,wpS P l Q (Zi V0 N) k fuel L a w):Tn P l.toArray Q (Zi V0 N) (fuel+1) L a w :=
 ⟨fun h0=>absurd h0 Sa,fun k hk=>wpS_op M (h k hk)⟩
theorem zIe {L:Array Bool} (h:(Region.ready .any l.toArray L).contains i=true):Region.ready .any l.toArray L≠[]:=fun e=>by rw [e] at h;simp at h
theorem zJ4 (hh:hs.contains i=true) (ho:l[i]?=vE o) (hF:Hid (Un V0 N V w))
  (h:∀ (_:Region.noSelect l.toArray=true) (_:i<l.length),DG l hs tail (js.map (·.1)) rest (Aa.setIfInBounds i true)=true -> rL l (js.map (·.1))=true -> (∀ x∈js,∃ oj,l[x.1]?=vE oj /\ BO P oj x.2.1 x.2.2) -> (∀ j∈js.map (·.1),Yz l i j=true) -> i ∉ js.map (·.1) ->
   ∀ (f:Nat -> Bool) (gs:Nat -> Nat) (w1:vw),vA w.1.size w w1 -> yE V N w1 js f gs ->
   wpS P l Q (Zi V0 N) i (rest.length+((js.map (·.1)).filter fun j=>!f j).length+tail.length) (Li Aa ((js.map (·.1)).filter f)) (ug l (Jo gs) a ((js.map (·.1)).filter f)) w1):zz P l hs tail Q V0 N js (i :: rest) Aa V a w:=by
 intro hn Xa hj Jh f gs w1 hb fl;obtain ⟨C,hr⟩:=fW Xa;obtain ⟨m,hm⟩:=zEX (((js.map (·.1)).filter fun j=>!f j).length)
 induction m using Nat.strongRecOn generalizing f gs w1 with
 | ind m ih =>
  subst hm;rw [show (i :: rest).length+((js.map (·.1)).filter fun j=>!f j).length+tail.length=rest.length+((js.map (·.1)).filter fun j=>!f j).length+tail.length+1 by simp only [Jg];omega]
  refine zB9 (Bc V0 N) (zIe (C.rd f)) fun k hk=>?_
  rcases C.hv hh f k hk with rfl | ⟨hkj,hkf⟩
  ·exact h hn C.lt hr hj Jh C.ap C.nj f gs w1 hb fl
  ·refine o4 (order:=i :: rest) (tail:=tail) hF.out hj Jh hb fl hkj hkf (by simp only [Jg];omega) fun f' gs' w2 ta Ba OU=>?_
   exact ih _ ta f' gs' w2 Ba OU rfl
theorem TL {f:FuncId} {vals:Array vx} (hh:hs.contains i=true) (ho:l[i]?=vE o) (hw:Region.wanted o (yielded l.toArray a.tmps)=true) (hF:Hid (Un V0 N V w))
  (Tc:∀ w,(execOp a.eval o).run P w= .ok (.enter f vals) w)
  (h:∀ w1,vA w.1.size w w1 -> vB P f vals w1 fun e w'=>∃ v V',e=vl v /\ Moved V V' w1 w' /\ (∀ b,V' b -> b<w'.1.size) /\ zz P l hs tail Q V0 N js rest (Aa.setIfInBounds i true) V' (a.put o.dst v) w'):zz P l hs tail Q V0 N js (i :: rest) Aa V a w:=by
 refine zJ4 hh ho hF fun hn hi hr hj Jh GC hnj f' gs w1 hb fl=>?_
 have e:=xC (h:=hi) ho;subst e;have bg:∀ cs b,l[i].op≠.select cs b:=fun cs b=>Ov hn i l[i] cs b (by rw [qo];exact ho)
 have hx:=yP (a:=a) (Jo gs) bg ho _ (vK (f:=f') GC);refine zJZ hi (by rw [hx.2 _ rfl];exact hw) ((h w1 hb).mono ?_) (fun w=>by rw [hx.1];exact Tc w)
 rintro e w' ⟨v,V',rfl,hm,ta,hz⟩;refine ⟨v,rfl,tI (Ru hF.out hb) hm,?_⟩;have:=hz hn hr hj Jh f' gs w' (tb _ _) (zEy fl hm)
 rwa [<- aT (fun hm=>hnj (wm.1 hm).1),<- IW ho (vK (f:=f') GC)] at this
theorem UL (jd:List (Option Tmp × Nat)) (hjd:((js.map (·.1)).map fun j=>(Yd l j,j))=jd) (hF:Hid (Un V0 N V w))
  (h:∀ (gs:Nat -> Nat) (w1:vw),vA w.1.size w w1 -> yE V N w1 js (fun _=>true) gs -> Po P l hs Q (Zi V0 N) tail (Li Aa (js.map (·.1))) (ki a (Jo gs) jd) w1):zz P l hs tail Q V0 N js [] Aa V a w:=by
 intro hn Xa hj Jh f gs w1 hb fl;unfold DG at Xa;rw [Vb,fe] at Xa;obtain ⟨Xa,hk⟩:=Xa;obtain ⟨m,hm⟩:=zEX (((js.map (·.1)).filter fun j=>!f j).length)
 induction m using Nat.strongRecOn generalizing f gs w1 with
 | ind m ih =>
  subst hm;have h1:=Xa _ (OQ f (js.map (·.1)))
  by_cases Gh:∀ j∈js.map (·.1),f j=true
  ·have e1:(js.map (·.1)).filter f=js.map (·.1):=List.filter_eq_self.2 Gh
   have e2:(js.map (·.1)).filter (fun j=>!f j)=[]:=List.filter_eq_nil_iff.2 fun j yA=>by rw [Gh j yA];exact BB
   rw [e1,e2,vR,hjd];have:=h gs w1 hb ⟨fun x hx _=>fl.blk x hx (Gh _ (Od.2 ⟨x,hx,rfl⟩)),fun x hx y hy _ _ Sa=>fl.dif x hx y hy (Gh _ (Od.2 ⟨x,hx,rfl⟩)) (Gh _ (Od.2 ⟨y,hy,rfl⟩)) Sa⟩ hn hk
   simpa using this
  ·have hns:¬((js.map (·.1)).all fun j=>((js.map (·.1)).filter f).contains j)=true:=fun h0=>Gh fun j yA=>by
    have:=fe.1 h0 j yA;exact (wm.1 (TE.1 this)).2
   rw [Bool.or_eq_true] at h1;replace h1:=h1.resolve_left hns;rw [Vb] at h1;obtain ⟨hne0,h2⟩:=h1;have Sa:Region.ready .any l.toArray (Li Aa ((js.map (·.1)).filter f))≠[]:=by simpa using hne0
   rw [fe] at h2;have ql:0<((js.map (·.1)).filter fun j=>!f j).length:=by
    obtain ⟨j,yA⟩:=Classical.not_forall.1 Gh;obtain ⟨hj1,AA⟩:=Classical.not_imp.1 yA;exact List.length_pos_of_mem (wm.2 ⟨hj1,by simp [Bool.eq_false_iff.2 AA]⟩)
   obtain ⟨fu,hfu⟩:∃ fu,([]:List Nat).length+((js.map (·.1)).filter fun j=>!f j).length+tail.length=fu+1:=⟨((js.map (·.1)).filter fun j=>!f j).length+tail.length-1,by simp only [List.length_nil];omega⟩
   rw [hfu];refine zB9 (Bc V0 N) Sa fun k XF=>?_
   have h3:=h2 k XF;simp only [Vb,Gl,TE] at h3;have hkf:f k=false:=by
    cases hf:f k
    ·rfl
    ·have:=h3.2
     rw [TE.2 (wm.2 ⟨h3.1,hf⟩)] at this;cases this
   exact o4 (order:=[]) (tail:=tail) hF.out hj Jh hb fl h3.1 hkf hfu fun f' gs' w2 ta Ba OU=>ih _ ta f' gs' w2 Ba OU rfl
end
def LJ (ts:List (Int × Nat)):List Nat:=ts.flatMap fun t=>[t.1.toNat,t.2]
def UA (ts:List (Int × Nat)):List Nat:=ts.length :: LJ ts
def qL (r:Ua):List Nat:=UA (Ec r 0)++UA (Ec r 1)++UA (Ec r 2)
def Ou (p:Nat) (pub vars:Int) (rows:List Ua):List Nat:=[p,pub.toNat,vars.toNat,rows.length]++rows.flatMap qL
def Jf (p:Nat) (pub vars:Int) (rows:List Ua):Nat:=if Yc p pub vars rows then Lo 21 (Ou p pub vars rows) else 0
def VJ (p:Nat) (pub vars:Int) (rows:List Ua) (i:Nat):List Nat:=[p,pub.toNat,vars.toNat,rows.length]++(rows.take i).flatMap qL
def SN (base:List Nat) (r:Ua):Nat -> List Nat
 | 0=>base
 | j+1=>SN base r j++UA (Ec r j)
def YA (base:List Nat) (ts:List (Int × Nat)) (t:Nat):List Nat:=base++ts.length :: LJ (ts.take t)
theorem zHJ (p:Nat) (pub vars:Int) (rows:List Ua) {i:Nat} (h:i<rows.length):VJ p pub vars rows (i+1)=SN (VJ p pub vars rows i) rows[i] 3:=by
 unfold VJ;rw [Lv h,List.flatMap_append];simp [SN,qL]
theorem zHK (base:List Nat) (ts:List (Int × Nat)):YA base ts ts.length=base++UA ts:=by simp [YA,UA]
theorem zHM (base:List Nat) (ts:List (Int × Nat)):YA base ts 0=base++[ts.length]:=by simp [YA,LJ]
theorem zHL (base:List Nat) (ts:List (Int × Nat)) {t:Nat} (h:t<ts.length):YA base ts (t+1)=YA base ts t++[(ts.getD t (0,0)).1.toNat,(ts.getD t (0,0)).2]:=by
 unfold YA LJ;rw [Lv h,List.flatMap_append,Fb,Qb h];simp
theorem R6 (ts:List (Int × Nat)):(LJ ts).length=2*ts.length:=by
 induction ts with
 | nil=>rfl
 | cons t ts ih =>
  show ([t.1.toNat,t.2]++LJ ts).length=_
  rw [jj,ih];simp
  omega
theorem zFq (base:List Nat) (ts:List (Int × Nat)) {t:Nat} (h:t <= ts.length):(YA base ts t).length=base.length+1+2*t:=by
 unfold YA;rw [jj,Jg,R6,Br,Nat.min_eq_left h];omega
theorem zHI (p:Nat) (pub vars:Int) (rows:List Ua):VJ p pub vars rows rows.length=Ou p pub vars rows:=by simp [VJ,Ou]
structure iH (p:Nat) (pub vars:Int) (rows:List Ua):Prop where
 pl:p<18446744073709551616
 pubI:0 <= pub /\ pub<9223372036854775808
 varI:0 <= vars /\ vars<9223372036854775808
 n:rows.length <= 16384
 sides:∀ r∈rows,∀ k,k<3 -> (Ec r k).length <= 100000
 terms:∀ r∈rows,∀ k,k<3 -> ∀ t∈Ec r k,0 <= t.1 /\ t.1<9223372036854775808 /\ t.2<18446744073709551616
 len:(Ou p pub vars rows).length <= 1000000
theorem zDx {p:Nat} {pub vars:Int} {rows:List Ua} (h:iH p pub vars rows):∀ x∈Ou p pub vars rows,x<18446744073709551616:=fun x hx=>by
 have h1:=h.pl;have h2:=h.pubI;have h3:=h.varI;have h4:=h.n;unfold Ou at hx;rcases jq.1 hx with hx | hx
 ·simp only [Ah,List.not_mem_nil,or_false] at hx
  omega
 ·obtain ⟨r,hr,hx⟩:=List.mem_flatMap.1 hx
  have key:∀ k,k<3 -> x∈UA (Ec r k) -> x<18446744073709551616:=fun k hk hx=>by
   unfold UA LJ at hx;rcases Ah.1 hx with rfl | hx
   ·have:=h.sides r hr k hk
    omega
   ·obtain ⟨t,ht,hx⟩:=List.mem_flatMap.1 hx
    have:=h.terms r hr k hk t ht;simp only [Ah,List.not_mem_nil,or_false] at hx;omega
  unfold qL at hx;rcases jq.1 hx with hx | hx
  ·rcases jq.1 hx with hx | hx
   ·exact key 0 zD hx
   ·exact key 1 zD hx
  ·exact key 2 zD hx
theorem zDz (i:Nat):4+700000*i+200001*3 <= 4+700000*(i+1):=by omega
theorem zFN {α:Type} {l:List α} {i:Nat} (d:α) (h:i<l.length):l.getD i d∈l:=by
 rw [Fb,Qb h];exact He h
theorem zJu (w:vw) (x y:Nat) (t:vz):Rd (w.alloc (.cells #[vd vn x,vd vn y] t)) 1 (vE ⟨w.1.size,0,vD⟩) 2 (Oa [x,y]) :=
 Rd.of_own (e:=t) (base:=w.1.size) (c:=2) ⟨rfl, .inr ⟨w.1.size,2,_,rfl,zR,heap_alloc_new w _,zR,by simp [maxLen],rfl,rfl⟩⟩
theorem p9 (w:vw) (x y z u:Nat) (t:vz):(w.alloc (.cells #[vd vn x,vd vn y,vd vn z,vd vn u] t)).ownsRow w.1.size t 1 (ve (vE ⟨w.1.size,0,vD⟩) 4 4) 4 (Oa [x,y,z,u]) :=
 ⟨rfl, .inr ⟨w.1.size,4,_,rfl,zR,heap_alloc_new w _,zR,by simp [maxLen],rfl,rfl⟩⟩
theorem zGU (p:Nat) (pub vars:Int) (A:Option vy) (R c:Nat) (rows:List Ua) (w:vw) (hr:RSl 3 je w [ve A R c] rows) (hD:iH p pub vars rows) (Xa:Yc p pub vars rows=true) :
  vB prog 132 #[Zb p pub vars (ve A R c)] w fun e w'=>e=vl (vd vn (Jf p pub vars rows:Int)) /\ vA w.1.size w w':=by
 have HV:=zH (fun w1 (hb:vA w.1.size w w1)=>by have:=JN p pub vars A R c rows w1 (Pg Og _ _ _ _ hb hr);rw [Xa] at this;exact this)
 have HH:=zH (fun A1 n1 c1 w1 (h1:RWd w1 [ve A1 n1 c1] (Ou p pub vars rows))=>mW 21 A1 n1 c1 (Ou p pub vars rows) w1 h1 (by simp [Ou]) hD.len)
 have rn:Jf p pub vars rows=Lo 21 (Ou p pub vars rows):=by unfold Jf;rw [Ka Xa]
 rw [rn];obtain ⟨A',n',c',he,bh,Sd,Ze,Ra⟩:=hr;simp at he
 obtain ⟨rfl,rfl,rfl⟩:=he;obtain ⟨pb,rfl⟩:=dk hD.pubI.1;obtain ⟨vr,rfl⟩:=dk hD.varI.1;have Kd:=hD.pubI.2;have sh:=hD.varI.2;have hRn:R <= 16384:=by rw [<- bh];exact hD.n
 have hDp:=hD.pl;have y1:vn.wrap (pb:Int)=pb:=by rw [Kj];omega
 have y2:vn.wrap (vr:Int)=vr:=by rw [Kj];omega
 have y3:vn.wrap (R:Int)=R:=by rw [Kj];omega
 obtain ⟨kt,da⟩:=zN w 25 #[vd vn p,vd vq pb,vd vq vr,ve A R c];have HR:=zH bh;have HS:=zH hD.sides;have HT:=zH hD.terms;have Tm:Hid (∀ x∈Ou p pb vr rows,x<18446744073709551616):=zH (zDx hD);clear rn bh Sd Ze Xa Kd sh hD hDp;unfold Zb at *;go_enter func132,ntmps132
 go_wp2_with fail
 generalize w.alloc _=w0 at kt da |-;refine (HV.out w0 da).mono ?_;rintro e w1 ⟨rfl,Ia⟩;replace kt:=ia kt Ia;replace da:=ma da Ia;clear Ia HV;have ct:=kt.cell;have lt:=kt.lt;have Jk:=p9 w1 p pb vr R 22;have oA:=zA w1 (.cells #[vd vn p,vd vn pb,vd vn vr,vd vn R] 22);obtain ⟨PR,hPR⟩:=zEX (VJ p pb vr rows);have Px:=zH (show PR 0=[p,pb,vr,R] by rw [hPR,<- HR.out];simp [VJ])
 have HPN:=zH (show ∀ i (h:i<rows.length),PR (i+1)=SN (PR i) rows[i] 3 from fun i h=>by rw [hPR];exact zHJ p pb vr rows h)
 have HPF:=zH (show PR R=Ou p pb vr rows by rw [hPR,<- HR.out];exact zHI p pb vr rows)
 clear hPR;go_upto_region 5 with fail
 generalize w1.alloc _=w2 at Jk oA |-;clear ct lt kt;go_loopw [29,3] (fun y v wr=>∃ i:Nat,i <= R /\ y=vd vq i /\ wr.ownsRow w1.1.size 22 1 v (PR i).length (Oa (PR i)) /\ (PR i).length <= 4+700000*i /\ vA w1.1.size w1 wr) (fun y _ _=>R-(intOf y).toNat)
 case atStart=>exact ⟨0,Kb _,rfl,by rw [Px.out];exact Jk,by rw [Px.out];simp,oA⟩
 case round =>
  clear Jk oA;obtain ⟨i,hi,rfl,Ca,hle,hb⟩:=hrel;by_cases ta:i<R
  ·have q1:(i:Int)<R:=by omega
   have q2:(0:Int)<=i:=by omega
   have Dq:i<rows.length:=by rw [HR.out];exact ta
   obtain ⟨b,q,rfl⟩:=Ra.base zO zO;obtain ⟨cs,-,hc,x,y,z,rfl,td,Ie,ud⟩:=Ra.get Dq;have Hh:=ma da hb;have Ib:=Gf _ _ ((hc 0 zO).trans (show [x,y,z][0]?=vE x from rfl))
   have h0:=(Hh.cell (p:=⟨b,q+i*3+0,vD⟩) Ib).trans (hc 0 zO);have h1:=(Hh.cell (p:=⟨b,q+i*3+1,vD⟩) Ib).trans (hc 1 zO);have h2:=(Hh.cell (p:=⟨b,q+i*3+2,vD⟩) Ib).trans (hc 2 zO);rw [tt] at h0;simp only [List.getElem?_cons_zero,List.getElem?_cons_succ] at h0 h1 h2;have PE:=zH (show ∀ k,k<3 -> RLin w [if k=0 then x else if k=1 then y else z] (Ec rows[i] k) from fun k hk=>by
    unfold Ec;rcases (show k=0 \/ k=1 \/ k=2 by omega) with h | h | h <;> subst h
    ·exact td
    ·exact Ie
    ·exact ud)
   have Lz:=zH (fun k hk=>HS.out rows[i] (He Dq) k hk)
   have HTi:=zH (fun k hk=>HT.out rows[i] (He Dq) k hk)
   obtain ⟨PS,GI⟩:=zEX (SN (PR i) rows[i]);have qK:=zH (show PR (i+1)=PS 3 by rw [GI];exact HPN.out i Dq)
   obtain ⟨sd,jD⟩:=zEX (Ec rows[i]);have xr:=zH (show PS 0=PR i by rw [GI];rfl)
   have HSN:=zH (show ∀ j,PS (j+1)=PS j++UA (sd j) from fun j=>by rw [GI,jD];rfl)
   rw [<- jD] at Lz HTi PE;obtain ⟨A1,n1,c1,rfl⟩:=RSl.slc td;obtain ⟨A2,n2,c2,rfl⟩:=RSl.slc Ie;obtain ⟨A3,n3,c3,rfl⟩:=RSl.slc ud;have ja:=zA wr (.cells #[ve A1 n1 c1,ve A2 n2 c2,ve A3 n3 c3] 211);have Xb:=zH ta;clear hc td Ie ud GI jD Hh Dq ta;have Gb:=Gf _ _ h0;go_wp2_with fail
   go_loopw [40,3] (fun y v wr=>∃ j:Nat,j <= 3 /\ y=vd vq j /\ wr.ownsRow w1.1.size 22 1 v (PS j).length (Oa (PS j)) /\ (PS j).length <= 4+700000*i+200001*j /\ vA w1.1.size w1 wr) (fun y _ _=>3-(intOf y).toNat)
   case atStart=>exact ⟨0,zO,rfl,by rw [xr.out];exact Mc Ca ja zR,by rw [xr.out];omega,hb.trans (ja.mono hb.size)⟩
   case round =>
    clear Ca hb h0 h1 h2 ja Gb hle;obtain ⟨j,hj,rfl,Ca,hle,hb⟩:=hrel;by_cases tn:j<3
    ·have q3:(j:Int)<3:=by omega
     have q4:(0:Int)<=j:=by omega
     have Ul:=PE.out j tn;have ix:=fun w=>nQ (w:=w) (x:=ve A1 n1 c1) (y:=ve A2 n2 c2) (z:=ve A3 n3 c3) tn
     obtain ⟨sel,bg⟩:=zEX ((if j=0 then ve A1 n1 c1 else if j=1 then ve A2 n2 c2 else ve A3 n3 c3))
     rw [<- bg] at Ul ix;have HTj:=zH (HTi.out j tn);have hsj:=Lz.out j tn;have HSNj:=zH (HSN.out j);obtain ⟨ts,fG⟩:=zEX (sd j);rw [<- fG] at Ul HTj hsj HSNj;clear bg fG;obtain ⟨As,ns,ke,rfl⟩:=RSl.slc Ul;obtain ⟨A',n',c',he,bh,Sd,Ih,Cs⟩:=Ul;simp at he
     obtain ⟨rfl,rfl,rfl⟩:=he;have gns:=Mm Sd Ih;have hns:ns <= 100000:=by omega
     have y4:vn.wrap (ns:Int)=ns:=by rw [Kj];omega
     have FE:=zH bh;obtain ⟨PT,hPT⟩:=zEX (YA (PS j) ts);have HT0:=zH (show PS j++[ns]=PT 0 by rw [hPT,zHM,FE.out])
     have HTN:=zH (show ∀ t,t<ns -> PT (t+1)=PT t++[(ts.getD t (0,0)).1.toNat,(ts.getD t (0,0)).2] from fun t h=>by rw [hPT];exact zHL _ _ (by rw [FE.out];exact h))
     have HTF:=zH (show PT ns=PS (j+1) by rw [hPT,HSNj.out,<- FE.out];exact zHK _ _)
     have HTL:=zH (show ∀ t,t <= ns -> (PT t).length=(PS j).length+1+2*t from fun t h=>by rw [hPT];exact zFq _ _ (by rw [FE.out];exact h))
     have Ky:(PT 0).length=(PS j).length+1:=HTL.out 0 (Kb _);clear hPT bh Sd Ih hsj;go_wp2_with (at_builtin;refine Ok rfl _ _ rfl Et rfl (Ca.alloc _) rfl (sx _ _ _) (Lq [ns]) zO (by simp;have:=hb.size;omega) ?_)
     intro v' wn Tb Va Cc;have ja:=zA wr (.cells #[vd vn ns] 22);have hB:=Sp (Ca.alloc _) Va (by simp;have:=hb.size;omega)
     replace hb:=(rM hb ja hb.size).trans hB;replace Ca:wn.ownsRow w1.1.size 22 1 v' ((PS j).length+1) (Oa (PT 0)):=BG (b:=[ns]) Tb HT0.out;clear Tb Va Cc ja hB;rw [<- Ky] at Ca;have hle0:(PT 0).length <= 4+700000*i+200001*j+1:=by omega
     have Gz:=zH hle;have wu:=zH Ky;clear hle Ky;go_wp2_with fail
     go_loopw [51,3] (fun y v wr=>∃ t:Nat,t <= ns /\ y=vd vq t /\ wr.ownsRow w1.1.size 22 1 v (PT t).length (Oa (PT t)) /\ vA w1.1.size w1 wr) (fun y _ _=>ns-(intOf y).toNat)
     case atStart=>exact ⟨0,Kb _,rfl,Ca,hb⟩
     case round =>
      clear Ca hb hle0;obtain ⟨t,ht,rfl,Ca,hb⟩:=hrel;by_cases Ow:t<ns
      ·have q5:(t:Int)<ns:=by omega
       have q6:(0:Int)<=t:=by omega
       have Py:t<ts.length:=by rw [FE.out];exact Ow
       obtain ⟨b',q',rfl⟩:=Cs.base zO zO;have Hh:=ma da hb;obtain ⟨pq,Tv⟩:=RLin.at_ (Cs.below pG Hh) Py;have Ur:=Gf _ _ pq;simp only at Ur;obtain ⟨Dj,sh,Qy⟩:=HTj.out _ (zFN (0,0) Py);have Mz:=zH (HTN.out t Ow);have hlen:(PT t).length <= 100000000000:=by
        rw [HTL.out t ht];have:=Gz.out;omega
       have hlen1:(PT (t+1)).length=(PT t).length+2:=by rw [Mz.out];simp
       revert pq Tv Dj sh Qy Mz
       generalize ts.getD t (0,0)=tm;obtain ⟨v0,co⟩:=tm;intro pq Tv Dj sh Qy Mz;simp only at pq Tv Dj sh Qy;obtain ⟨v1,rfl⟩:=dk Dj;have y5:vn.wrap (v1:Int)=v1:=by rw [Kj];omega
       have HTt2:=zH (show PT (t+1)=PT t++[v1,co] by rw [Mz.out];simp)
       have HTN1:=zH Ow;have ZE:=zA wr (.cells #[vd vq v1,vd vn co] 208);have dz:=Mc Ca ZE zR;have hsz1:=hb.size;clear Dj sh Qy Mz Hh Py Ow;have kt9:=Blk.new wr 208 #[vd vq v1,vd vn co];go_upto_region 14 with fail
       generalize wr.alloc _=w9 at ZE dz kt9 |-;have c9:=kt9.cell;have l9:=kt9.lt;have Rr:=hb.trans (ZE.mono hsz1);have al2:=zA w9 (.cells #[vd vn v1,vd vn co] 22);have kQ:=Rr.size;go_wp2_with (at_builtin;refine Ok rfl _ _ rfl Et rfl (dz.alloc _) rfl (zJu _ _ _ _) (Lq [v1,co]) zO zT ?_)
       intro v' wn Tb Va Cc;have Xh:=(Rr.trans (al2.mono kQ)).trans (Sp (dz.alloc _) Va zT);have hownn:wn.ownsRow w1.1.size 22 1 v' (PT (t+1)).length (Oa (PT (t+1))):=by
        rw [hlen1];exact BG (b:=[v1,co]) Tb HTt2.out.symm
       clear Tb Va Cc Rr al2 ZE dz kt9 c9 l9;go_wp2
       go_roundw
       case rel=>exact ⟨t+1,HTN1.out,by go_num,hownn,Xh⟩
       case measure=>have:=HTN1.out;simp [intOf];omega
      ·obtain rfl:ns=t:=by omega
       rw [HTF.out] at Ca;have Hm:(PS (j+1)).length <= 4+700000*i+200001*(j+1):=by
        rw [<- HTF.out,HTL.out ns zR];have:=Gz.out;omega
       go_wp2
       go_roundw
       case rel=>exact ⟨j+1,tn,by go_num,Ca,Hm,hb⟩
       case measure=>simp [intOf];omega
    ·obtain rfl:j=3:=by omega
     rw [<- qK.out] at Ca hle;have XU:(PR (i+1)).length <= 4+700000*(i+1):=zb hle (zDz i);go_wp2
     go_roundw
     case rel=>exact ⟨i+1,Xb.out,by go_num,Ca,XU,hb⟩
     case measure=>have:=Xb.out;simp [intOf];omega
  ·obtain rfl:R=i:=by omega
   rw [HPF.out] at Ca;obtain ⟨Av,cv,rfl,-⟩:=Ud Ca;have hw:=Hq Ca Tm.out;have HC:=zH (HH.out _ _ _ wr hw);have Ib:=ma da hb;clear hw Ca hle;go_wp2_with fail
   refine HC.out.mono ?_;rintro e w5 ⟨rfl,Za⟩;replace Ib:=ma Ib Za;go_wp2;go_ret
   exact ⟨rfl,Ib⟩
theorem PM {n:Nat} (h:2 <= n):Cp n=2^((n-1).log2+1) /\ n <= Cp n /\ ∀ j,j<(n-1).log2+1 -> 2^j<n:=by
 have h0:n-1≠0:=by omega
 have h1:=Nat.log2_self_le h0;have h2:=@Nat.lt_log2_self (n-1);refine ⟨rfl,by unfold Cp;omega,fun j hj=>?_⟩
 have:=bn (show 0<2 by decide) (show j <= (n-1).log2 by omega)
 omega
theorem SQ {L:Na} (h:Nb L) {n:Nat} (h2:2 <= n) (hn:n <= L.n):Tk L.p (Cp n) /\ Cp n <= L.n:=by
 obtain ⟨e,-,hj⟩:=PM h2;obtain ⟨t,ht⟩:=h.n;have Xd:=h.n2;have hle:(n-1).log2+1 <= t:=by
  rcases Wg t ((n-1).log2+1) with q | q
  ·have:=hj t q;omega
  ·exact q
 have XU:Cp n <= L.n:=by rw [e,ht];exact bn zD hle
 refine ⟨⟨by rw [e];exact Nat.one_le_two_pow,zO,⟨_,e⟩,?_⟩,XU⟩
 have hd:Cp n∣L.n:=by rw [e,ht];exact Nat.pow_dvd_pow 2 hle
 exact Nat.mod_eq_zero_of_dvd (Nat.dvd_trans hd (Nat.dvd_of_mod_eq_zero h.nd))
def WA (p K al:Nat) (F:Nat -> Nat) (R:Nat -> Nat -> Nat):Nat -> Nat -> Nat
 | 0=>F
 | i+1=>uo p (eh p al (i+1)) (WA p K al F R i) (R i) K
def XA (p len:Nat) (F:Nat -> Nat) (D:Nat -> Nat -> Nat):Nat -> Nat -> Nat
 | 0=>F
 | i+1=>uo p 1 (XA p len F D i) (D i) len
def oz (p K len be:Nat) (F:Nat -> Nat) (D Z:Nat -> Nat -> Nat):Nat -> Nat -> Nat
 | 0=>F
 | j+1=>uo p (tg p (eh p be (j+1))) (uo p (eh p be (j+1)) (oz p K len be F D Z j) (D j) len) (Z j) K
theorem KO {p s t:Nat} (hp:0<p) {F G:Nat -> Nat} (h:∀ k,F k<p) (k:Nat):uo p s F G t k<p:=by
 unfold uo ni;split
 ·exact mc _ hp
 ·exact h k
theorem nR {p K al:Nat} (hp:0<p) {F:Nat -> Nat} {R:Nat -> Nat -> Nat} (h:∀ k,F k<p):∀ i k,WA p K al F R i k<p
 | 0=>h
 | i+1=>KO hp (nR hp h i)
theorem qR {p len:Nat} (hp:0<p) {F:Nat -> Nat} {D:Nat -> Nat -> Nat} (h:∀ k,F k<p):∀ i k,XA p len F D i k<p
 | 0=>h
 | i+1=>KO hp (qR hp h i)
theorem RN {p K len be:Nat} (hp:0<p) {F:Nat -> Nat} {D Z:Nat -> Nat -> Nat} (h:∀ k,F k<p):∀ j k,oz p K len be F D Z j k<p
 | 0=>h
 | j+1=>KO hp (KO hp (RN hp h j))
def Uq (g1 g2 g3:Nat) (w w':vw):Prop:=vA 0 w w' /\ ∀ b,b<w.1.size -> b≠g1 -> b≠g2 -> b≠g3 -> w'.1[b]?=w.1[b]?
theorem Z0 (g1 g2 g3:Nat) (w:vw):Uq g1 g2 g3 w w:=⟨tb _ _,fun _ _ _ _ _=>rfl⟩
theorem my {g1 g2 g3:Nat} {a b c:vw} (x:Uq g1 g2 g3 a b) (y:Uq g1 g2 g3 b c):Uq g1 g2 g3 a c :=
 ⟨x.1.trans y.1,fun k h h1 h2 h3=>(y.2 k (pd h x.1.size) h1 h2 h3).trans (x.2 k h h1 h2 h3)⟩
theorem ly {g1 g2 g3:Nat} {a b:vw} (x:vA a.1.size a b):Uq g1 g2 g3 a b:=⟨x.mono (Kb _),fun k h _ _ _=>x.block k h⟩
theorem rC {g1 g2 g3:Nat} {a b:vw} {u:Nat} (x:a.grownBy b (vE u)) (hu:u=g1 \/ u=g2 \/ u=g3):Uq g1 g2 g3 a b :=
 ⟨zt x 0 (Kb _) (fun _ _=>Kb _),fun k h h1 h2 h3=>x.block k h (fun e=>by
  have e1:=Ya e;rcases hu with e2 | e2 | e2
  ·exact h1 (e1.trans e2)
  ·exact h2 (e1.trans e2)
  ·exact h3 (e1.trans e2))⟩
theorem KM {g1 g2 g3 b:Nat} {w w':vw} {t:vz} {cs:Array vx} (k:Blk w b t cs) (x:Uq g1 g2 g3 w w') (h1:b≠g1) (h2:b≠g2) (h3:b≠g3):Blk w' b t cs:=by
 have hl:=k.lt;unfold Blk at *;rw [x.2 b hl h1 h2 h3];exact k
theorem ex3_to {g1 g2 g3 B:Nat} {a b c:vw} (KI:vA B a b) (x:Uq g1 g2 g3 b c) (hB:B <= b.1.size) (h1:B <= g1) (h2:B <= g2) (h3:B <= g3):vA B a c :=
 KI.trans ⟨x.1.os,x.1.tape,x.1.output,x.1.size,fun k hk=>x.2 k zO zO zO zO⟩
theorem JK {g1 g2 g3 g base n c:Nat} {w w':vw} {e:vz} {q:Nat} {xs:List vx} (h:w.ownsRow base e 1 (ve (vE ⟨g,q,vD⟩) n c) n xs) (x:Uq g1 g2 g3 w w') (h1:g≠g1) (h2:g≠g2) (h3:g≠g3):w'.ownsRow base e 1 (ve (vE ⟨g,q,vD⟩) n c) n xs:=by
 obtain ⟨k1,k2⟩:=h;refine ⟨k1,?_⟩;rcases k2 with k2 | ⟨g',cap,cur,hv,il,hh,r⟩
 ·exact Or.inl k2
 ·have he:g=g':=by
   injection hv with e1
   injection e1 with e1
   injection e1
  subst he;exact Or.inr ⟨g,cap,cur,hv,il,by rw [x.2 g (ru.1 hh).1 h1 h2 h3];exact hh,r⟩
def oO (N:Nat) (w w':vw):Prop:=w.1.size <= w'.1.size /\ ∀ b,N <= b -> b<w.1.size -> w'.1[b]?=w.1[b]?
theorem bF {N:Nat} {a b:vw} (x:vA a.1.size a b):oO N a b:=⟨x.size,fun k _ h=>x.block k h⟩
theorem zCF {g1 g2 g3 N:Nat} {a b:vw} (x:Uq g1 g2 g3 a b) (h1:g1<N) (h2:g2<N) (h3:g3<N):oO N a b:=⟨x.1.size,fun k hk h=>x.2 k h zO zO zO⟩
theorem NO {g N:Nat} {a b:vw} (x:a.grownBy b (vE g)) (h1:g<N):oO N a b:=⟨x.size,fun k hk h=>x.block k h (fun e=>by have:=Ya e;omega)⟩
def XL (N K:Nat) (w:vw) (CS:Array vx) (i:Nat) (F:Nat -> Nat -> Nat):Prop:=∀ k,k<i -> ∃ g,CS[k]?=vE (ve (vE ⟨g,0,vD⟩) K K) /\ N <= g /\ Blk w g 22 (Qa K (F k))
theorem Sv {N K:Nat} {w w':vw} {CS:Array vx} {i:Nat} {F:Nat -> Nat -> Nat} (h:XL N K w CS i F) (x:oO N w w'):XL N K w' CS i F:=fun k hk=>by
 obtain ⟨g,h1,h2,h3⟩:=h k hk;refine ⟨g,h1,h2,?_⟩;have hl:=h3.lt;unfold Blk at *;rw [x.2 g h2 hl];exact h3
theorem zCW {N K:Nat} {w:vw} {CS:Array vx} {i g:Nat} {F:Nat -> Nat -> Nat} (h:XL N K w CS i F) (hi:i<CS.size) (hg:N <= g) (k:Blk w g 22 (Qa K (F i))):XL N K w (CS.setIfInBounds i (ve (vE ⟨g,0,vD⟩) K K)) (i+1) F:=fun j hj=>by
 by_cases e:i=j
 ·subst e
  exact ⟨g,by simp [hi],hg,k⟩
 ·obtain ⟨u,h1,h2⟩:=h j zO
  exact ⟨u,by rw [Array.getElem?_setIfInBounds_ne e];exact h1,h2⟩
theorem sM (w:vw) (t1 t2 t3 t4:vz) (ke Tf pk lF:Array vx) :
  Blk ((((w.alloc (.cells ke t1)).alloc (.cells Tf t2)).alloc (.cells pk t3)).alloc (.cells lF t4)) w.1.size t1 ke /\ Blk ((((w.alloc (.cells ke t1)).alloc (.cells Tf t2)).alloc (.cells pk t3)).alloc (.cells lF t4)) (w.1.size+1) t2 Tf /\ Blk ((((w.alloc (.cells ke t1)).alloc (.cells Tf t2)).alloc (.cells pk t3)).alloc (.cells lF t4)) (w.1.size+1+1) t3 pk /\ Blk ((((w.alloc (.cells ke t1)).alloc (.cells Tf t2)).alloc (.cells pk t3)).alloc (.cells lF t4)) (w.1.size+1+1+1) t4 lF /\
   vA w.1.size w ((((w.alloc (.cells ke t1)).alloc (.cells Tf t2)).alloc (.cells pk t3)).alloc (.cells lF t4)) /\ ((((w.alloc (.cells ke t1)).alloc (.cells Tf t2)).alloc (.cells pk t3)).alloc (.cells lF t4)).1.size=w.1.size+4:=by
 obtain ⟨h1,h2,h3,h4,h5⟩:=oq w t1 t2 t3 ke Tf pk;refine ⟨h1.alloc _,h2.alloc _,h3.alloc _,?_,h4.alloc zO _,zS⟩;have:=Blk.new (((w.alloc (.cells ke t1)).alloc (.cells Tf t2)).alloc (.cells pk t3)) t4 lF;rw [h5] at this;exact this
theorem n9 {w:vw} {base g n:Nat} {F:Nat -> Nat} (k:Blk w g 22 (Qa n F)) (hb:base <= g) (hn:n <= maxLen):w.ownsRow base 22 1 (ve (vE ⟨g,0,vD⟩) n n) n (Oa ((List.range n).map F)):=by
 have hl:(Oa ((List.range n).map F)).length=n:=by simp [Oa]
 refine ⟨by rw [hl];omega, .inr ⟨g,n,Qa n F,rfl,hb,k,zR,hn,by simp [Qa],?_⟩⟩
 rw [Yv,VE (by rw [hl];omega)]
theorem YO {L:Na} {r:List (List Nat)} {co li qu sa:List Nat} (h:ey L r co li qu sa=true) :
  r.length=L.a+L.b+L.b+L.b /\ (∀ x∈r,x.length=L.queries /\ ∀ y∈x,y<L.p) /\ (co.length=L.k /\ ∀ y∈co,y<L.p) /\ (li.length=L.k+L.block-2 /\ ∀ y∈li,y<L.p) /\ (qu.length=L.block+2*L.queries-1 /\ ∀ y∈qu,y<L.p):=by
 unfold ey Rj at h;simp only [Vb,fe,yo] at h;exact ⟨h.1,h.2.1,h.2.2.1,h.2.2.2.1,h.2.2.2.2.1⟩
theorem BR (l:List Nat) (n:Nat) (h:l.length=n):(List.range n).map (fun k=>l.getD k 0)=l:=by
 subst h;refine zG zS fun i hi=>?_
 simp at hi
 rw [Yl,Ka hi]
def ay (L:Na) (m r:List (List Nat)) (i:Nat):Nat -> Nat:=uv L (m.getD i []) (r.getD i [])
def Dr (L:Na) (m r:List (List Nat)) (i:Nat):List Nat:=(List.range L.k).map (ay L m r i)
def YB (L:Na) (cs m r:List (List Nat)) (i:Nat):Nat -> Nat :=
 TA L.p (Cp (L.k+L.block-1)) ((L.k+L.block-1-1).log2+1) ((List.range L.block).map (Dn L.p L.block L.block.log2 (cs.getD i []))) (Dr L m r i)
def dy (L:Na) (m r:List (List Nat)) (j:Nat):Nat -> Nat :=
 TA L.p (Cp (2*L.k-1)) ((2*L.k-1-1).log2+1) (Dr L m r (L.a+j)) (Dr L m r (L.a+L.b+j))
def aF (L:Na) (m r:List (List Nat)) (j:Nat):Nat -> Nat:=ay L m r (L.a+L.b+L.b+j)
def wtF (p:Nat) (cs:List (List Nat)) (i:Nat):List Nat:=(List.range (cs.getD i []).length).map (oQ p (cs.getD i []) 1)
def Vp (p:Nat) (cs:List (List Nat)):List (List Nat):=(List.range cs.length).map (wtF p cs)
theorem CZ (L:Na) (pu La:Nat) (rows:List Ua):(Mi L pu La rows).length=L.a+L.b+L.b+L.b:=by
 unfold Mi rq;rw [Vv,Vv,Vv,Vv];simp [Nl,Df]
theorem XO {L:Na} {pu La:Nat} {rows:List Ua}:∀ r∈Mi L pu La rows,r.length=L.block:=fun r h=>by
 unfold Mi at h;obtain ⟨i,k,-,-,rfl⟩:=ZO h;simp [Ir]
def ig (L:Na) (m r:List (List Nat)):List (List Nat):=(List.range m.length).map (dX L m r)
def Xz (L:Na) (m r:List (List Nat)) (co:List Nat) (al:Nat):List Nat:=iz (Cr L.p co (Lu L.p (ig L m r) al m.length)) L.k
def Yx (L:Na) (cs m r:List (List Nat)) (li:List Nat):List Nat:=iz (Cr L.p (Fg L li) (Wt L.p (ig L m r) (Vp L.p cs) m.length)) (L.k+L.block-1)
def Zx (L:Na) (m r:List (List Nat)) (qu:List Nat) (be:Nat):List Nat:=iz (Cr L.p (qx L qu) (Ko L.p L.a L.b (ig L m r) be L.b)) (2*L.k-1)
structure Du (L:Na) (m r:List (List Nat)):Prop where
 ml:m.length=L.a+L.b+L.b+L.b
 rl:r.length=m.length
 mr:∀ x∈m,x.length=L.block
 rr:∀ x∈r,x.length=L.queries
theorem rF {l:List (List Nat)} {P:List Nat -> Prop} (h:∀ x∈l,P x) {i:Nat} (hi:i<l.length):P (l.getD i []):=by
 rw [zU hi];exact h _ (He hi)
theorem XD {L:Na} (hL:Nb L) {m r:List (List Nat)} (h:Du L m r) {i:Nat} (hi:i<m.length):(ig L m r).getD i []=Dr L m r i:=by
 have e:(ig L m r).getD i []=dX L m r i:=by
  rw [ig,Fb,ot,Pz hi]
  rfl
 have h1:=rF h.mr hi;have h2:=rF h.rr (show i<r.length by rw [h.rl];exact hi)
 rw [e,dX,zIr hL h1 h2,RA,h2,<- hL.k]
 rfl
theorem zAN (L:Na) (m r:List (List Nat)):(ig L m r).length=m.length:=by simp [ig]
theorem cX {L:Na} (hL:Nb L) {m r:List (List Nat)} (h:Du L m r):∀ x∈ig L m r,x.length=L.k:=fun x hx=>by
 obtain ⟨i,hi,rfl⟩:=Ym hx;rw [zAN] at hi;have e:=XD hL h hi;rw [zU (by rw [zAN];exact hi)] at e
 rw [e];simp [Dr]
theorem zBa (p a b c:Nat):((a+b)%p+c%p)%p=(a+(b+c%p)%p)%p:=by
 rw [Nat.mod_add_mod,Nat.add_mod_mod a,Nat.add_assoc]
theorem JO {p s t k:Nat} {F G:Nat -> Nat} (h:k<t):uo p s F G t k=(F k+s*G k%p)%p:=by
 unfold uo ni;rw [Ka h]
theorem zCo {p s t k:Nat} {F G:Nat -> Nat} (h:¬k<t):uo p s F G t k=F k:=by
 unfold uo ni;rw [ya h]
theorem BZ {L:Na} (hL:Nb L) {m r:List (List Nat)} (h:Du L m r) {co:List Nat} (hc:co.length=L.k) (ta:∀ y∈co,y<L.p) (al:Nat) :
  (List.range L.k).map (WA L.p L.k al (fun k=>co.getD k 0) (ay L m r) m.length)=Xz L m r co al:=by
 have hp:=Rb hL.p;have hl:(Xz L m r co al).length=L.k:=by
  rw [Xz,wL];have h1:=Xx L.p co (Lu L.p (ig L m r) al m.length);have h2:=xZ (p:=L.p) (al:=al) (fun x hx=>Nat.le_of_eq (cX hL h x hx)) m.length
  omega
 refine zG (by rw [hl];simp) fun k hk=>?_
 simp at hk
 rw [Yl,Ka hk,Xz,vL,Iu];have key:∀ i,i <= m.length -> WA L.p L.k al (fun k=>co.getD k 0) (ay L m r) i k=(co.getD k 0+(Lu L.p (ig L m r) al i).getD k 0)%L.p:=fun i=>by
  induction i with
  | zero =>
   intro _;rw [WA,Lu];exact (qj (by simpa using fw zO ta k)).symm
  | succ i ih =>
   intro hi;rw [WA,JO hk,ih zO,Lu,Iu,cK,XD hL h zO,Dr,Yl,Ka hk,ye (eh L.p al (i+1)),zBa]
 exact key _ zR
theorem nY {L:Na} (hL:Nb L) {cs:List (List Nat)} (Yf:∀ x∈cs,x.length=L.block) {i:Nat} (hi:i<cs.length):(Vp L.p cs).getD i []=(List.range L.block).map (Dn L.p L.block L.block.log2 (cs.getD i [])):=by
 obtain ⟨hlen,j,hj⟩:=Vy hL;have Xu:L.block.log2=j:=by rw [hj];exact Sz
 have h1:=rF Yf hi;have e:(Vp L.p cs).getD i []=wtF L.p cs i:=by
  rw [Vp,Fb,ot,Pz hi]
  rfl
 rw [e,wtF,h1];refine Qz fun k hk=>?_
 have XF:=pj.1 hk;rw [S5 (j:=j) _ hL.p (by rw [h1];exact hlen) (by rw [h1];exact hj) zO,h1,Xu]
theorem VV {p:Nat} (hp:0<p) (a b:List Nat) (k:Nat):(zl p a b).getD k 0<p:=fw hp (fun _ h=>zF0 hp h) k
theorem zCD {L:Na} (hL:Nb L) {cs m r:List (List Nat)} (h:Du L m r) (Yf:∀ x∈cs,x.length=L.block) (Kg:cs.length=m.length) {i k:Nat} (hi:i<m.length) (hk:k<L.k+L.block-1) :
  YB L cs m r i k=(zl L.p ((Vp L.p cs).getD i []) ((ig L m r).getD i [])).getD k 0:=by
 have hp:=Rb hL.p;have Ia:=hL.b1;have Mt:=hL.k;have Mg:=hL.nk;have Ek:=hL.q1;have h2:2 <= L.k+L.block-1:=by omega
 obtain ⟨hM,-⟩:=SQ hL h2 zO;obtain ⟨e,hle,-⟩:=PM h2;rw [nY hL Yf zO,XD hL h hi];unfold YB;refine Cg.eq (p:=L.p) (X7 hL.p hM e _ _ zT (by simp [Dr];omega) k zO) (Y7 zO _ _ _) (VV zO _ _ _)
theorem A7 {L:Na} (hL:Nb L) {cs m r:List (List Nat)} (h:Du L m r) (Yf:∀ x∈cs,x.length=L.block) (Kg:cs.length=m.length) {li:List Nat} (hl:li.length=L.k+L.block-2) (ta:∀ y∈li,y<L.p) :
  (List.range (L.k+L.block-1)).map (XA L.p (L.k+L.block-1) (fun k=>(Fg L li).getD k 0) (YB L cs m r) m.length)=Yx L cs m r li:=by
 have hp:=Rb hL.p;have Ia:=hL.b1;have Mt:=hL.k;have Ek:=hL.q1;have Tj:(Fg L li).length=L.k+L.block-1:=by rw [Fg,Jg];omega
 have hmlt:∀ k,(Fg L li).getD k 0<L.p:=fun k=>by
  cases k with
  | zero=>exact uN zO _ _
  | succ k=>exact fw zO ta k
 have oD:∀ x∈Vp L.p cs,x.length <= L.block:=fun x hx=>by
  obtain ⟨i,hi,rfl⟩:=Od.1 hx;rw [wtF,Zm,Yo,rF Yf (pj.1 hi)];exact zR
 have bh:(Yx L cs m r li).length=L.k+L.block-1:=by
  rw [Yx,wL];have h1:=Xx L.p (Fg L li) (Wt L.p (ig L m r) (Vp L.p cs) m.length);have h2:=Z6 (p:=L.p) (fun x hx=>Nat.le_of_eq (cX hL h x hx)) oD m.length
  omega
 refine zG (by rw [bh];simp) fun k hk=>?_
 simp at hk
 rw [Yl,Ka zO,Yx,vL,Iu];have key:∀ i,i <= m.length -> XA L.p (L.k+L.block-1) (fun k=>(Fg L li).getD k 0) (YB L cs m r) i k=((Fg L li).getD k 0+(Wt L.p (ig L m r) (Vp L.p cs) i).getD k 0)%L.p:=fun i=>by
  induction i with
  | zero =>
   intro _;rw [XA,Wt];exact (qj (by simpa using hmlt k)).symm
  | succ i ih =>
   intro hi;rw [XA,JO zO,ih zO,Wt,Iu,zCD hL h Yf Kg zO zO,Nat.one_mul,zBa];rw [qj (VV (p:=L.p) zO _ _ _)]
 exact key _ zR
theorem zCE {L:Na} (hL:Nb L) {m r:List (List Nat)} (h:Du L m r) {j k:Nat} (hj:j<L.b) (hk:k<2*L.k-1) :
  dy L m r j k=(zl L.p ((ig L m r).getD (L.a+j) []) ((ig L m r).getD (L.a+L.b+j) [])).getD k 0:=by
 have hp:=Rb hL.p;have Ia:=hL.b1;have Mt:=hL.k;have Mg:=hL.nk;have Ek:=hL.q1;have Tj:=h.ml;have h2:2 <= 2*L.k-1:=by omega
 obtain ⟨hM,-⟩:=SQ hL h2 zO;obtain ⟨e,hle,-⟩:=PM h2;rw [XD hL h zO,XD hL h zO];unfold dy;refine Cg.eq (p:=L.p) (X7 hL.p hM e _ _ (by simp [Dr];omega) (by simp [Dr];omega) k zO) (Y7 zO _ _ _) (VV zO _ _ _)
theorem dC {p:Nat} (a b:Nat):Cg p ((a*b%p:Nat):Int) ((a:Int)*b):=(Cg.mod _).trans (Cg.of_eq (Qf _ _))
theorem bI {p:Nat} (a b:Nat):Cg p (((a+b)%p:Nat):Int) ((a:Int)+b):=(Cg.mod _).trans (Cg.of_eq (um _ _))
theorem gap_cg {p:Nat} (hp:1<p) (a b:List Nat) (k:Nat):Cg p ((VG p a b).getD k 0:Int) ((a.getD k 0:Int)-(b.getD k 0:Int)):=by
 rw [VG,Iu,cK];refine (bI _ _).trans ?_;have h1:=(dC (p:=p) (b.getD k 0) (tg p 1)).trans (Cg.rfl'.mul (ID p 1 zO));refine (Cg.rfl'.add h1).trans (Cg.of_eq ?_);have:(((1:Nat):Int))=1:=rfl;rw [this,Int.mul_neg,Int.mul_one]
 rfl
theorem zAo {L:Na} (hL:Nb L) {m r:List (List Nat)} (h:Du L m r) {qu:List Nat} (hq:qu.length=L.block+2*L.queries-1) (be:Nat) :
  (List.range (2*L.k-1)).map (oz L.p L.k (2*L.k-1) be (Hg L.p L.block qu qu.length) (dy L m r) (aF L m r) L.b)=Zx L m r qu be:=by
 have hp:=Rb hL.p;have Ia:=hL.b1;have Mt:=hL.k;have Ek:=hL.q1;have Tj:=h.ml;have hql:(qx L qu).length=2*L.k-1:=by rw [wR hL hq,UD,Zm,Yo];omega
 have bh:(Zx L m r qu be).length=2*L.k-1:=by
  rw [Zx,wL];have h1:=Xx L.p (qx L qu) (Ko L.p L.a L.b (ig L m r) be L.b);have h2:=zAn (p:=L.p) (a:=L.a) (b:=L.b) (be:=be) (fun x hx=>Nat.le_of_eq (cX hL h x hx)) L.b
  omega
 refine zG (by rw [bh];simp) fun k hk=>?_
 simp at hk
 rw [Yl,Ka hk,Zx,vL,Iu];have key:∀ j,j <= L.b -> Cg L.p (oz L.p L.k (2*L.k-1) be (Hg L.p L.block qu qu.length) (dy L m r) (aF L m r) j k:Int) (((qx L qu).getD k 0:Int)+((Ko L.p L.a L.b (ig L m r) be j).getD k 0:Int)):=fun j=>by
  induction j with
  | zero =>
   intro _;rw [oz,Ko,wR hL hq,UD,Yl,Ka zO];exact Cg.of_eq zS
  | succ j ih =>
   intro hj;have ih:=ih zO;have hz:aF L m r j k=if k<L.k then ((ig L m r).getD (L.a+L.b+L.b+j) []).getD k 0 else aF L m r j k:=by
    split
    ·rename_i hkL
     rw [XD hL h zO,Dr,Yl,Ka hkL]
     rfl
    ·rfl
   obtain ⟨F,hF⟩:=zEX (oz L.p L.k (2*L.k-1) be (Hg L.p L.block qu qu.length) (dy L m r) (aF L m r) j);obtain ⟨P,hP⟩:=zEX (eh L.p be (j+1));rw [<- hF] at ih;rw [oz,Ko,Iu,cK,<- hF,<- hP,vI];have hG:=gap_cg (p:=L.p) zO (zl L.p ((ig L m r).getD (L.a+j) []) ((ig L m r).getD (L.a+L.b+j) [])) ((ig L m r).getD (L.a+L.b+L.b+j) []) k;rw [<- zCE hL h zO hk] at hG;generalize ((VG L.p (zl L.p ((ig L m r).getD (L.a+j) []) ((ig L m r).getD (L.a+L.b+j) [])) ((ig L m r).getD (L.a+L.b+L.b+j) [])).getD k 0)=G at hG |-;have hR:Cg L.p ((((qx L qu).getD k 0:Nat):Int)+((((Ko L.p L.a L.b (ig L m r) be j).getD k 0+G*P%L.p)%L.p:Nat):Int)) ((((qx L qu).getD k 0:Nat):Int)+(((Ko L.p L.a L.b (ig L m r) be j).getD k 0:Nat):Int)+(G:Int)*P):=by
    refine (Cg.rfl'.add ((bI _ _).trans (Cg.rfl'.add (dC _ _)))).trans (Cg.of_eq ?_);omega
   refine Cg.trans ?_ hR.symm;have h1:Cg L.p ((uo L.p P F (dy L m r j) (2*L.k-1) k:Nat):Int) ((F k:Int)+(P:Int)*(dy L m r j k:Int)):=by
    rw [JO hk];exact (bI _ _).trans (Cg.rfl'.add (dC _ _))
   by_cases hkL:k<L.k
   ·rw [Ka hkL] at hz
    rw [JO hkL];refine (bI _ _).trans ?_;refine (h1.add ((dC _ _).trans ((ID L.p P zO).mul Cg.rfl'))).trans ?_;rw [hz];refine ((ih.add Cg.rfl').add Cg.rfl').trans ?_;refine Cg.trans (Cg.of_eq ?_) (Cg.rfl'.add (hG.mul Cg.rfl').symm)
    grind
   ·rw [zCo hkL]
    refine h1.trans ?_;have Yh:((ig L m r).getD (L.a+L.b+L.b+j) []).getD k 0=0:=PK (by rw [XD hL h zO];simp [Dr];omega)
    rw [Yh] at hG;refine (ih.add Cg.rfl').trans ?_;refine Cg.trans (Cg.of_eq ?_) (Cg.rfl'.add (hG.mul Cg.rfl').symm)
    grind
 refine Cg.eq (p:=L.p) ((key _ zR).trans ?_) (RN zO (fun k=>qE zO _ _ _) _ _) (mc _ zO)
 exact (bI _ _).symm
theorem aZ {L:Na} (hL:Nb L) {cs m r:List (List Nat)} (h:Du L m r) (Yf:∀ x∈cs,x.length=L.block) (Kg:cs.length=m.length) {co li qu:List Nat} (hc:co.length=L.k /\ ∀ y∈co,y<L.p) (hl:li.length=L.k+L.block-2 /\ ∀ y∈li,y<L.p) (hq:qu.length=L.block+2*L.queries-1) (al be:Nat) :
  aw L (Xz L m r co al) (Yx L cs m r li) (Zx L m r qu be)=true:=by
 have hp:=Rb hL.p;rw [<- BZ hL h hc.1 hc.2,<- A7 hL h Yf Kg hl.1 hl.2,<- zAo hL h hq];unfold aw;simp only [Zm,Yo,decide_true,Bool.true_and,Vb,fe,yo,Od,pj];refine ⟨⟨?_,?_⟩,?_⟩
 ·rintro x ⟨k,-,rfl⟩
  exact nR zO (fun k=>fw zO hc.2 k) _ _
 ·rintro x ⟨k,-,rfl⟩
  refine qR zO (fun k=>?_) _ _
  cases k with
  | zero=>exact uN zO _ _
  | succ k=>exact fw zO hl.2 k
 ·rintro x ⟨k,-,rfl⟩
  exact RN zO (fun k=>qE zO _ _ _) _ _
def Ms (f:Nat -> Nat) (n:Nat):List (List Nat):=(List.range n).map fun k=>[f k]
def oB (p a b:Nat):Nat:=(a+tg p b)%p
def bA (L:Na) (cs:List (List Nat)) (al be:Nat) (a b c:List Nat) (x:Nat) (v:List Nat):List Nat :=
 [oB L.p (Vc L.p a x) (Vc L.p (Lu L.p (Ms (fun k=>v.getD k 0) v.length) al v.length) 0),
  oB L.p (Vc L.p b x) (Vc L.p (Wt L.p (Ms (fun k=>v.getD k 0) v.length) (Ms (fun k=>Vc L.p ((Vp L.p cs).getD k []) x) v.length) v.length) 0),
  oB L.p (Vc L.p c x) (Vc L.p (Ko L.p L.a L.b (Ms (fun k=>v.getD k 0) v.length) be L.b) 0)]
theorem GL {f:Nat -> Nat} {n k:Nat} (h:k<n):(Ms f n).getD k []=[f k]:=by
 rw [Ms,Fb,ot,Pz h]
 rfl
theorem GK (v:Nat) (x:Int):Lc [v] x=(v:Int):=by
 show 0+(v:Int)*x^0=_
 rw [Int.pow_zero];omega
theorem TG {p:Nat} (hp:0<p) (a b:Nat):Cg p (oB p a b:Int) ((a:Int)-b) :=
 (bI _ _).trans ((Cg.rfl'.add (ID p b hp)).trans (Cg.of_eq zO))
theorem zD1 {p:Nat} (hp:1<p) (a b:List Nat) (x:Int):Cg p (Lc (VG p a b) x) (Lc a x-Lc b x):=by
 unfold VG;refine (pF a _ x).trans ((Cg.rfl'.add ((vP b _ x).trans ((ID p 1 zO).mul Cg.rfl'))).trans (Cg.of_eq ?_));rw [show (((1:Nat):Int))=1 from rfl,Int.neg_mul,mo]
 omega
theorem FT {p:Nat} (rows:List (List Nat)) (al:Nat) (x:Int):∀ i,Cg p (Lc (Lu p rows al i) x) (Pa (fun j=>(eh p al (j+1):Int)*Lc (rows.getD j []) x) i)
 | 0=>Cg.rfl'
 | i+1=>by
  rw [Lu,Pa];exact (pF _ _ x).trans ((FT rows al x i).add (vP _ _ x))
theorem KV {p:Nat} (rows ws:List (List Nat)) (x:Int):∀ i,Cg p (Lc (Wt p rows ws i) x) (Pa (fun j=>Lc (ws.getD j []) x*Lc (rows.getD j []) x) i)
 | 0=>Cg.rfl'
 | i+1=>by
  rw [Wt,Pa];exact (pF _ _ x).trans ((KV rows ws x i).add (cU _ _ x))
theorem LW {p:Nat} (hp:1<p) (a b:Nat) (rows:List (List Nat)) (be:Nat) (x:Int):∀ i,Cg p (Lc (Ko p a b rows be i) x) (Pa (fun j=>(eh p be (j+1):Int)*(Lc (rows.getD (a+j) []) x*Lc (rows.getD (a+b+j) []) x-Lc (rows.getD (a+b+b+j) []) x)) i)
 | 0=>Cg.rfl'
 | i+1=>by
  rw [Ko,Pa];refine (pF _ _ x).trans ((LW hp a b rows be x i).add ((vP _ _ x).trans (Cg.rfl'.mul ?_)));unfold vI;refine (zD1 hp _ _ x).trans ?_;obtain ⟨c,hc⟩:=cU (p:=p) (rows.getD (a+i) []) (rows.getD (a+b+i) []) x;exact ⟨c,by rw [<- hc];omega⟩
theorem zZ {p:Nat} (f:Nat -> Nat) (al n:Nat):Cg p (Vc p (Lu p (Ms f n) al n) 0:Int) (Pa (fun j=>(eh p al (j+1):Int)*(f j:Int)) n):=by
 refine (Jr _).trans ((FT _ _ _ _).trans (Wi _ fun j hj=>?_))
 rw [GL hj,GK];exact Cg.rfl'
theorem z7 {p:Nat} (f g:Nat -> Nat) (n:Nat):Cg p (Vc p (Wt p (Ms f n) (Ms g n) n) 0:Int) (Pa (fun j=>(g j:Int)*(f j:Int)) n):=by
 refine (Jr _).trans ((KV _ _ _ _).trans (Wi _ fun j hj=>?_))
 rw [GL hj,GL hj,GK,GK];exact Cg.rfl'
theorem xR {p:Nat} (hp:1<p) {a b n:Nat} (hn:a+b+b+b=n) (f:Nat -> Nat) (be:Nat):Cg p (Vc p (Ko p a b (Ms f n) be b) 0:Int) (Pa (fun j=>(eh p be (j+1):Int)*((f (a+j):Int)*(f (a+b+j):Int)-(f (a+b+b+j):Int))) b):=by
 refine (Jr _).trans ((LW hp _ _ _ _ _ _).trans (Wi _ fun j hj=>?_))
 rw [GL zO,GL zO,GL zO,GK,GK,GK];exact Cg.rfl'
def fF (p al:Nat) (f:Nat -> Nat) (e:Nat):Nat -> Nat
 | 0=>e
 | j+1=>oB p (fF p al f e j) (eh p al (j+1)*f j%p)
def iF (p:Nat) (d f:Nat -> Nat) (e:Nat):Nat -> Nat
 | 0=>e
 | j+1=>oB p (iF p d f e j) (d j*f j%p)
def aA (p a b be:Nat) (f:Nat -> Nat) (e:Nat):Nat -> Nat
 | 0=>e
 | j+1=>oB p (aA p a b be f e j) (eh p be (j+1)*oB p (f (a+j)*f (a+b+j)%p) (f (a+b+b+j))%p)
theorem UG {p:Nat} (hp:0<p) (a b:Nat):oB p a b<p:=mc _ hp
theorem AX {p:Nat} {a b t u:Int} {x y:Int} (h:Cg p a (b-t)) (h2:Cg p x (a-y)) (h3:Cg p y u):Cg p x (b-(t+u)):=by
 obtain ⟨c,hc⟩:=h;obtain ⟨d,hd⟩:=h2;obtain ⟨e,he⟩:=h3;exact ⟨c+d-e,by rw [Int.mul_sub,Int.mul_add,<- hc,<- hd,<- he];omega⟩
theorem tZ {p:Nat} (hp:0<p) (al:Nat) (f:Nat -> Nat) (e:Nat):∀ j,Cg p (fF p al f e j:Int) ((e:Int)-Pa (fun j=>(eh p al (j+1):Int)*(f j:Int)) j)
 | 0=>Cg.of_eq (by rw [fF,Pa];omega)
 | j+1=>by
  rw [fF,Pa];exact AX (tZ hp al f e j) (TG hp _ _) (dC _ _)
theorem uZ {p:Nat} (hp:0<p) (d f:Nat -> Nat) (e:Nat):∀ j,Cg p (iF p d f e j:Int) ((e:Int)-Pa (fun j=>(d j:Int)*(f j:Int)) j)
 | 0=>Cg.of_eq (by rw [iF,Pa];omega)
 | j+1=>by
  rw [iF,Pa];exact AX (uZ hp d f e j) (TG hp _ _) (dC _ _)
theorem vZ {p:Nat} (hp:0<p) (a b be:Nat) (f:Nat -> Nat) (e:Nat):∀ j,Cg p (aA p a b be f e j:Int) ((e:Int)-Pa (fun j=>(eh p be (j+1):Int)*((f (a+j):Int)*(f (a+b+j):Int)-(f (a+b+b+j):Int))) j)
 | 0=>Cg.of_eq (by rw [aA,Pa];omega)
 | j+1=>by
  rw [aA,Pa];refine AX (vZ hp a b be f e j) (TG hp _ _) ((dC _ _).trans (Cg.rfl'.mul ((TG hp _ _).trans ?_)));obtain ⟨c,hc⟩:=dC (p:=p) (f (a+j)) (f (a+b+j));exact ⟨c,by rw [<- hc];omega⟩
def kK (L:Na) (x:Nat):List Nat:=(List.range L.block).map (Dn L.p L.block L.block.log2 ((List.range L.block).map fun i=>x^i%L.p))
theorem QT {p:Nat} (a b:List Nat):∀ k,Cg p (Pu p a b k:Int) (Pa (fun m=>(a.getD m 0:Int)*(b.getD m 0:Int)) k)
 | 0=>Cg.rfl'
 | k+1=>by
  rw [Pu,Pa];refine (bI _ _).trans ((QT a b k).add ((dC _ _).trans ((Cg.mod _).mul (Cg.mod _))))
theorem zDK {L:Na} (hL:Nb L) {cs:List (List Nat)} (Yf:∀ x∈cs,x.length=L.block) {j:Nat} (hj:j<cs.length) (x:Nat):Cg L.p (Pu L.p (cs.getD j []) (kK L x) L.block:Int) (Vc L.p ((Vp L.p cs).getD j []) x:Int):=by
 obtain ⟨hlen,t,ht⟩:=Vy hL;have Xu:L.block=2^L.block.log2:=by rw [ht,Sz]
 refine (QT _ _ _).trans ?_;refine Cg.trans ?_ (Jr _).symm;rw [nY hL Yf hj,<- pI _ _ (n:=L.block) zS,Wv];obtain ⟨v,hv⟩:∃ v:Int,v=((Ee L.p L.block^(L.p-2)%L.p:Nat):Int):=⟨_,rfl⟩;obtain ⟨s,hs⟩:∃ s:Int,s=((L.block^(L.p-2)%L.p:Nat):Int):=⟨_,rfl⟩;obtain ⟨c,hc⟩:∃ c:Nat -> Int,c=fun m=>(((cs.getD j []).getD m 0:Nat):Int):=⟨_,rfl⟩
 have hA:Cg L.p (Pa (fun m=>((cs.getD j []).getD m 0:Int)*((kK L x).getD m 0:Int)) L.block) (Pa (fun m=>Pa (fun k=>c m*(s*((x:Int)^k*(v^m)^k))) L.block) L.block):=by
  refine Wi _ fun m hm=>?_
  rw [kK,Yl,Ka hm];refine (Cg.rfl'.mul (pQ _ hL.p hlen Xu hm)).trans ?_;rw [<- hv,<- hs,Wv,tz,tz];refine Wi _ fun k hk=>?_
  rw [Yl,Ka hk,hc];refine Cg.rfl'.mul (Cg.rfl'.mul (Cg.mul ?_ Cg.rfl'));exact (Cg.mod _).trans (Cg.of_eq (jo _ _))
 have hB:Cg L.p (Pa (fun k=>Bt ((List.range L.block).map (Dn L.p L.block L.block.log2 (cs.getD j []))) k*(x:Int)^k) L.block) (Pa (fun k=>Pa (fun m=>c m*(s*((x:Int)^k*(v^m)^k))) L.block) L.block):=by
  refine Wi _ fun k hk=>?_
  rw [Bt,Yl,Ka hk];refine ((pQ _ hL.p hlen Xu hk).mul Cg.rfl').trans ?_;rw [<- hv,<- hs,Wv,tz,ik,tz];refine Wi _ fun m _=>Cg.of_eq ?_
  rw [hc,<- Sh,<- Sh,ye m k]
  grind
 refine hA.trans (Cg.trans (Cg.of_eq ?_) hB.symm);exact pB (fun m k=>c m*(s*((x:Int)^k*(v^m)^k))) L.block L.block
theorem zDm {L:Na} (hL:Nb L) {cs:List (List Nat)} (Yf:∀ x∈cs,x.length=L.block) (al be:Nat) (a b c:List Nat) (x:Nat) {v:List Nat} (hv:v.length=L.a+L.b+L.b+L.b) (Kg:cs.length=v.length) :
  [fF L.p al (fun k=>v.getD k 0) (Vc L.p a x) v.length,iF L.p (fun j=>Pu L.p (cs.getD j []) (kK L x) L.block) (fun k=>v.getD k 0) (Vc L.p b x) v.length,aA L.p L.a L.b be (fun k=>v.getD k 0) (Vc L.p c x) L.b]=bA L cs al be a b c x v:=by
 have hp:=Rb hL.p;have l0:∀ e,e<L.p -> ∀ j,fF L.p al (fun k=>v.getD k 0) e j<L.p:=fun e he j=>by
  cases j with
  | zero=>exact he
  | succ j=>exact UG zO _ _
 have l1:∀ d e,e<L.p -> ∀ j,iF L.p d (fun k=>v.getD k 0) e j<L.p:=fun d e he j=>by
  cases j with
  | zero=>exact he
  | succ j=>exact UG zO _ _
 have l2:∀ e,e<L.p -> ∀ j,aA L.p L.a L.b be (fun k=>v.getD k 0) e j<L.p:=fun e he j=>by
  cases j with
  | zero=>exact he
  | succ j=>exact UG zO _ _
 unfold bA
 congr 1
 ·refine Cg.eq (p:=L.p) ((tZ zO _ _ _ _).trans (Cg.trans ?_ (TG zO _ _).symm)) (l0 _ (Qu zO _ _) _) (UG zO _ _)
  obtain ⟨d,hd⟩:=zZ (p:=L.p) (fun k=>v.getD k 0) al v.length
  exact ⟨d,by rw [<- hd];omega⟩
 congr 1
 ·refine Cg.eq (p:=L.p) ((uZ zO _ _ _ _).trans (Cg.trans ?_ (TG zO _ _).symm)) (l1 _ _ (Qu zO _ _) _) (UG zO _ _)
  have h1:Cg L.p (Vc L.p (Wt L.p (Ms (fun k=>v.getD k 0) v.length) (Ms (fun k=>Vc L.p ((Vp L.p cs).getD k []) x) v.length) v.length) 0:Int) (Pa (fun j=>((Vc L.p ((Vp L.p cs).getD j []) x:Nat):Int)*((v.getD j 0:Nat):Int)) v.length):=z7 (p:=L.p) (fun k=>v.getD k 0) (fun k=>Vc L.p ((Vp L.p cs).getD k []) x) v.length
  have h2:Cg L.p (Pa (fun j=>((Pu L.p (cs.getD j []) (kK L x) L.block:Nat):Int)*((v.getD j 0:Nat):Int)) v.length) (Pa (fun j=>((Vc L.p ((Vp L.p cs).getD j []) x:Nat):Int)*((v.getD j 0:Nat):Int)) v.length) :=
   Wi _ fun j hj=>(zDK hL Yf zO x).mul Cg.rfl'
  obtain ⟨d,hd⟩:=h1;obtain ⟨e,he⟩:=h2;exact ⟨d-e,by rw [Int.mul_sub,<- hd,<- he];omega⟩
 congr 1
 ·refine Cg.eq (p:=L.p) ((vZ zO _ _ _ _ _ _).trans (Cg.trans ?_ (TG zO _ _).symm)) (l2 _ (Qu zO _ _) _) (UG zO _ _)
  obtain ⟨d,hd⟩:=xR (p:=L.p) zO hv.symm (fun k=>v.getD k 0) be
  exact ⟨d,by rw [<- hd];omega⟩
end Go.Proofs.YteoghgbnielkpaaGreat
