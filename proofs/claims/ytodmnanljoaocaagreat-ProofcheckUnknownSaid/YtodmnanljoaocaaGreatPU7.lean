/- A part of the proof. No condition. -/
import Derived.Test.YtodmnanljoaocaaGreatPU4
import Derived.Test.YtodmnanljoaocaaGreatPU5
import Derived.Test.YtodmnanljoaocaaGreatPU6

set_option maxRecDepth 100000
set_option maxHeartbeats 8000000
set_option linter.unusedVariables false
set_option linter.unusedSimpArgs false
namespace Go.Proofs.YtodmnanljoaocaaGreat
open Go.RowKit Go.Maps
open Tryz
open Go renaming World->vv, Value->vw, Addr->vx, TypeId->vy, Calls->vA
open Go.Value renaming int->vd, slice->ve, agg->vf
open Go.IntKind renaming u64->vq, i64->vt
open Go.Ending renaming returned->vn
open Go.RowKit renaming Below->vz
open Go.Act renaming put->vF
open Option renaming none->vB, some->vD
def je (O:Oa) (k:Nat):Prop:=O.qs.length <= k /\ O.dr <= k
theorem Vw {O:Oa} {k:Nat} (h:je O k) (lab:Nat) (el:List Nat):je (td O lab el) (k+1):=by
 obtain ⟨i,s,d,q⟩:=O;have h1:q.length <= k:=h.1;have h2:d <= k:=h.2;unfold td;split
 ·split
  ·exact ⟨Nat.le_succ_of_le h1,Nat.le_succ_of_le h2⟩
  ·split
   ·refine ⟨?_,?_⟩
    ·rw [GG,uZ,Pp]
     exact Nat.succ_le_succ h1
    ·rw [orcDr]
     exact Nat.succ_le_succ h2
   ·refine ⟨?_,?_⟩
    ·rw [GG,Pp]
     exact Nat.succ_le_succ h1
    ·exact Nat.le_succ_of_le h2
 ·exact ⟨Nat.le_succ_of_le h1,Nat.le_succ_of_le h2⟩
where
 orcDr {i:Bool} {s d:Nat} {q:List Qn} {lab a:Nat} {el:List Nat}:(rk (Mn ⟨i,s,d,q⟩) lab el a).dr=d+1:=rfl
theorem yW {lab:Nat}:∀ (qs:List (List Nat)) {O:Oa} {k:Nat},je O k -> je (kd O lab qs) (k+qs.length)
 | [],_,_,h=>h
 | q :: r,O,k,h=>by
  have:=yW (lab:=lab) r (Vw h lab q);rw [pk,show k+(r.length+1)=k+1+r.length by omega]
  exact this
theorem ti {O:Oa} {k m:Nat} (h:je O k) (hm:k <= m):je O m:=⟨Cb h.1 hm,Cb h.2 hm⟩
theorem OQ (O:Oa) (lab:Nat) (el:List Nat):(td O lab el).ideal=O.ideal:=by
 unfold td;split
 ·split
  ·rfl
  ·split
   ·rw [addQ_id,tZ]
   ·rw [addQ_id]
 ·rfl
where
 addQ_id {O:Oa} {lab a:Nat} {el:List Nat}:(rk O lab el a).ideal=O.ideal:=by simp only [rk]
def pn (leaves:List (List Nat)) (salts:List Nat):List (List Nat):=(List.range leaves.length).map fun i=>salts.getD i 0 :: leaves.getD i []
theorem aW (leaves:List (List Nat)) (salts:List Nat):(pn leaves salts).length=leaves.length:=by simp [pn]
theorem bM {α:Type} {l:List α} {i:Nat} (d:α) (h:i<l.length):l.getD i d∈l:=by
 rw [Gc,Dc h];exact pg h
theorem zDz:(prog.info? 28).map (fun i=>(i.zero,i.size,i.bytes))=vD (vD (ve vB 0 0),1,24):=by kernel_rfl
theorem el_rw:Lr prog 39 28 1 24 (ve vB 0 0):=by
 obtain ⟨i0,hi,Wj,Zd,Gg⟩:=info_parts zDz;exact ⟨underlying39,⟨i0,hi,Wj,Zd,Gg⟩,rfl,zO⟩
def sLen (v:vw):Nat:=match v with | ve _ n _=>n | _=>0
def Lv (O:Oa):Prop:=O.ideal=false -> ∀ q∈O.qs,q.ans=Dj q.lab q.el
theorem CQ {qs:List Qn} {lab:Nat} {el:List Nat} {a:Nat} (h:oe qs lab el=vD a):∃ q∈qs,q.lab=lab /\ q.el=el /\ q.ans=a:=by
 unfold oe at h;rw [Option.map_eq_some_iff] at h;obtain ⟨q,hq,rfl⟩:=h;have h1:=List.find?_some hq;simp only [aj,Pd,Qk] at h1;exact ⟨q,List.mem_of_find?_eq_some hq,h1.1,h1.2,rfl⟩
theorem zCy {O:Oa} (h:Lv O) (lab:Nat) (el:List Nat):Lv (td O lab el):=by
 intro hi;rw [OQ] at hi;unfold td;split
 ·split
  ·exact h hi
  ·rw [mb (by rw [hi];exact Ss),GG]
   intro q hq;rcases Lq.1 hq with hq | hq
   ·exact h hi q hq
   ·rw [zz] at hq
    subst hq
    rfl
 ·exact h hi
theorem zDj {O:Oa} (h:Lv O) (hi:O.ideal=false) (lab:Nat) (el:List Nat):Pe O lab el=if Uc el then Dj lab el else 0:=by
 unfold Pe;split
 ·split
  ·rename_i a ha
   obtain ⟨q,hq,h1,h2,h3⟩:=CQ ha;rw [<- h3,h hi q hq,h1,h2]
  ·rw [mb (by rw [hi];exact Ss)]
 ·rfl
theorem M7 {O:Oa} (h:Lv O) (hi:O.ideal=false) (lab:Nat) (el:List Nat):Nl O lab el=if Uc el then vD (Dj lab el) else vB:=by
 unfold Nl;split
 ·split
  ·rename_i a ha
   obtain ⟨q,hq,h1,h2,h3⟩:=CQ ha;rw [<- h3,h hi q hq,h1,h2]
  ·rw [mb (by rw [hi];exact Ss)]
 ·rfl
structure Tr where
 O:Oa
 st:Nat
 ct:Nat
def Vh (s:Tr) (tag:Nat) (l:List Nat):Tr:=⟨td s.O 18 (s.st :: tag :: l),Pe s.O 18 (s.st :: tag :: l),0⟩
def Qr (s:Tr):Nat:=Pe s.O 19 [s.st,s.ct]
def Qo (s:Tr):Tr:=⟨td s.O 19 [s.st,s.ct],s.st,s.ct+1⟩
def qg (O:Oa) (L:Xa) (dg:Nat) (pub:List Nat):Tr:=Vh ⟨O,20,0⟩ 1 (dg :: L.block :: L.n :: L.queries :: pub)
structure ChR where
 al:Nat
 rh:Nat
 be:Nat
def Em (s:Tr) (p root:Nat):ChR:=⟨Qr (Vh s 2 [root])%p,Qr (Qo (Vh s 2 [root]))%p,Qr (Qo (Qo (Vh s 2 [root])))%p⟩
def oh (s:Tr) (root:Nat):Tr:=Qo (Qo (Qo (Vh s 2 [root])))
def xq (s:Tr) (all:List Nat) (n q:Nat):List Nat:=EC (Vh s 3 all).O (Vh s 3 all).st 0 n q
def WA (s:Tr) (all:List Nat) (q:Nat):Oa:=kd (Vh s 3 all).O 19 (Up (Vh s 3 all).st 0 q)
theorem zEg {F F':Nat -> Prop} {w w':vv} (h:Moved F F' w w') {N:Nat} {V0:Nat -> Prop} (hN:N <= w.1.size) (hV:∀ b,b<N -> F b -> V0 b):∀ b,b<N -> F' b -> V0 b:=fun b hb hf=>by
 rcases h.foot b hf with e | e
 ·exact hV b hb e
 ·omega
structure Qh (V0:Nat -> Prop) (N:Nat) (V:Nat -> Prop) (w:vv):Prop where
 size:N <= w.1.size
 lt:∀ b,V b -> b<w.1.size
 old:∀ b,b<N -> V b -> V0 b
theorem wk {V0 V V':Nat -> Prop} {N:Nat} {w w':vv} (h:Qh V0 N V w) (m:Moved V V' w w') (ta:∀ b,V' b -> b<w'.1.size):Qh V0 N V' w':=⟨Cb h.size m.size,ta,zEg m h.size h.old⟩
theorem re {V0 V:Nat -> Prop} {N:Nat} {w w':vv} (h:Qh V0 N V w) (m:vz w.1.size w w'):Qh V0 N V w':=⟨Cb h.size m.size,fun b hb=>Be (h.lt b hb) m.size,h.old⟩
theorem zCX {V:Nat -> Prop} {w:vv} (ta:∀ b,V b -> b<w.1.size):Qh V w.1.size V w:=⟨zR,ta,fun _ _ h=>h⟩
theorem Ri {V0 V V':Nat -> Prop} {N:Nat} {w w':vv} (h:Qh V0 N V w) (m:Moved V V' w w'):Ul V0 N w w':=zCY m h.size h.old
section
variable {P:Program} {l:List Oper} {hs tail:List Nat} {Q:Exit -> Act -> vv -> Prop} {V0 V:Nat -> Prop} {N j:Nat} {t:vy} {z:Array vw} {rest:List Nat} {i:Nat} {o:Oper} {Ea:Array Bool} {a:Act} {w:vv}
end
def iL:List Nat -> List (List Nat)
 | []=>[[]]
 | j :: js=>iL js++(iL js).map (j :: ·)
theorem xR (f:Nat -> Bool):∀ js:List Nat,js.filter f∈iL js
 | []=>by simp [iL]
 | j :: js=>by
  rw [iL,Lq];cases h:f j
  ·rw [VI (by rw [h];exact Ss)]
   exact .inl (xR f js)
  ·rw [WI h]
   exact .inr (Ie.2 ⟨_,xR f js,rfl⟩)
def Lj (L:Array Bool) (S:List Nat):Array Bool:=S.foldl (fun L j=>L.setIfInBounds j true) L
theorem CN:∀ (S:List Nat) (L:Array Bool) (i:Nat),(Lj L S)[i]?=if i∈S then L[i]?.map (fun _=>true) else L[i]?
 | [],_,_=>by simp [Lj]
 | j :: S,L,i=>by
  show (Lj (L.setIfInBounds j true) S)[i]?=_
  rw [CN S,Array.getElem?_setIfInBounds];by_cases e:j=i
  ·subst e
   by_cases hj:j<L.size
   ·simp [hj]
   ·simp [hj]
  ·have e':¬i=j:=fun h=>e h.symm
   simp [e,e']
theorem EN {S:List Nat} {L:Array Bool} {i:Nat} (h:i ∉ S):(Lj L S).setIfInBounds i true=Lj (L.setIfInBounds i true) S:=by
 refine Array.ext_getElem? fun k=>?_
 have db:∀ (S:List Nat) (L:Array Bool),(Lj L S).size=L.size:=fun S=>by
  induction S with
  | nil=>intro L;rfl
  | cons j S ih=>intro L;show (Lj (L.setIfInBounds j true) S).size=_;rw [ih];simp
 rw [Array.getElem?_setIfInBounds,CN,CN,Array.getElem?_setIfInBounds,db];by_cases e:i=k
 ·subst e
  simp [h]
 ·simp [e]
theorem zBf {J:List Nat} {f f':Nat -> Bool} {L:Array Bool} {j:Nat} (hj:j∈J) (h1:f' j=true) (h2:∀ k,k≠j -> f' k=f k):(Lj L (J.filter f)).setIfInBounds j true=Lj L (J.filter f'):=by
 refine Array.ext_getElem? fun k=>?_
 have db:∀ (S:List Nat) (L:Array Bool),(Lj L S).size=L.size:=fun S=>by
  induction S with
  | nil=>intro L;rfl
  | cons j S ih=>intro L;show (Lj (L.setIfInBounds j true) S).size=_;rw [ih];simp
 rw [Array.getElem?_setIfInBounds,CN,CN,db];by_cases e:j=k
 ·subst e
  simp only [if_true,zl,hj,h1,true_and];by_cases hs:j<L.size
  ·simp [hs]
  ·simp [hs]
 ·have e':k≠j:=fun h=>e h.symm
  simp only [e,if_false,zl,h2 k e']
structure eG (V:Nat -> Prop) (N:Nat) (w:vv) (js:List (Nat × vy × Array vw)) (f:Nat -> Bool) (gs:Nat -> Nat):Prop where
 blk:∀ x∈js,f x.1=true -> Blk w (gs x.1) x.2.1 x.2.2 /\ N <= gs x.1 /\ ¬V (gs x.1)
 dif:∀ x∈js,∀ y∈js,f x.1=true -> f y.1=true -> x.1≠y.1 -> gs x.1≠gs y.1
def il (gs:Nat -> Nat):Nat -> vw:=fun j=>.pointer (vD ⟨gs j,0,vB⟩)
def jI (gs:Nat -> Nat) (j g:Nat):Nat -> Nat:=fun k=>if k=j then g else gs k
theorem zFZ (gs:Nat -> Nat) (j g:Nat):il (jI gs j g)=yq (il gs) j (.pointer (vD ⟨g,0,vB⟩)):=by
 funext k
 unfold il jI yq;split <;> rfl
def VH (l:List Oper) (hs tail js:List Nat):List Nat -> Array Bool -> Bool
 | [],L=>(iL js).all (fun S=>js.all (fun j=>S.contains j)||(!(Region.ready .any l.toArray (Lj L S)).isEmpty&&(Region.ready .any l.toArray (Lj L S)).all fun k=>js.contains k&&!S.contains k))&&FF l hs tail (Lj L js)
 | i :: rest,L=>decide (i<l.length)&&!js.contains i&&(js.all fun j=>UB l i j) &&
   ((iL js).all fun S=>Region.free .any l.toArray (Lj L S) i&&(Region.ready .any l.toArray (Lj L S)).contains i&&(!hs.contains i||(Region.ready .any l.toArray (Lj L S)).all fun k=>k == i||(js.contains k&&!S.contains k))) &&
   VH l hs tail js rest (L.setIfInBounds i true)
def GM (l:List Oper) (js:List Nat):Bool:=decide js.Nodup&&js.all fun j=>decide (j<l.length)&&js.all fun k=>j == k||(Me l j).isNone||Me l j != Me l k
def uu (P:Program) (l:List Oper) (hs tail:List Nat) (Q:Exit -> Act -> vv -> Prop) (V0:Nat -> Prop) (N:Nat) (js:List (Nat × vy × Array vw)) (order:List Nat) (Ea:Array Bool) (V:Nat -> Prop) (a:Act) (w:vv):Prop :=
 Region.noSelect l.toArray=true -> VH l hs tail (js.map (·.1)) order Ea=true -> GM l (js.map (·.1))=true -> (∀ x∈js,∃ oj,l[x.1]?=vD oj /\ SP P oj x.2.1 x.2.2) ->
  ∀ (f:Nat -> Bool) (gs:Nat -> Nat) (w1:vv),vz w.1.size w w1 -> eG V N w1 js f gs ->
   rn P l.toArray Q (Ul V0 N) (order.length+((js.map (·.1)).filter fun j=>!f j).length+tail.length) (Lj Ea ((js.map (·.1)).filter f)) (Rg l (il gs) a ((js.map (·.1)).filter f)) w1
section
variable {P:Program} {l:List Oper} {hs tail:List Nat} {Q:Exit -> Act -> vv -> Prop} {V0 V:Nat -> Prop} {N:Nat} {js:List (Nat × vy × Array vw)} {rest:List Nat} {i:Nat} {o:Oper} {Ea:Array Bool} {a:Act} {w:vv}
theorem zCU:eG V N w js (fun _=>false) (fun _=>0):=⟨fun _ _ h=>(nomatch h),fun _ _ _ _ h=>(nomatch h)⟩
theorem AU {V':Nat -> Prop} {f:Nat -> Bool} {gs:Nat -> Nat} {w1 w2:vv} (h:eG V N w1 js f gs) (hm:Moved V V' w1 w2):eG V' N w2 js f gs :=
 ⟨fun x hx hf=>let ⟨a,b,c⟩:=h.blk x hx hf;⟨a.moved hm c,b,qi hm a.lt c⟩,h.dif⟩
theorem Ps {id:Nat} (V0 V:Nat -> Prop) (N:Nat) (hs order:List Nat) (js:List (Nat × vy × Array vw)) (tail:List Nat) (hm:P.follows .mixedOrders=true)
  (Tj:∀ x∈js,∃ oj,l[x.1]?=vD oj /\ SP P oj x.2.1 x.2.2)
  (jb:(Region.noSelect l.toArray&&order.length+js.length+tail.length == l.length&&VH l hs tail (js.map (·.1)) order (List.replicate l.length false).toArray&&GM l (js.map (·.1)))=true)
  (h:uu P l hs tail Q V0 N js order (List.replicate l.length false).toArray V a w.drew):(Code.region id l.toArray true).wp P Q a w:=by
 simp only [Pd,Qk] at jb;refine zP (Ul V0 N) hm ?_;have:=h jb.1.1.1 jb.1.2 jb.2 Tj (fun _=>false) (fun _=>0) w.drew (Bb _ _) zCU
 have e0:(js.map (·.1)).filter (fun _=>!false)=js.map (·.1):=List.filter_eq_self.2 (fun _ _=>rfl)
 rw [List.filter_eq_nil_iff.2 (fun _ _=>Ss),e0,dw] at this
 rw [<- jb.1.1.2];rw [<- jb.1.1.2] at this;exact this
theorem Rs {order:List Nat} (h:∀ W,Hid (W=w) -> Ul V0 N w W -> uu P l hs tail Q V0 N js order Ea V a W):uu P l hs tail Q V0 N js order Ea V a w:=h w rfl ((Kb V0 N).refl w)
structure zBb (l:List Oper) (hs js:List Nat) (i:Nat) (L:Array Bool):Prop where
 lt:i<l.length
 nj:i ∉ js
 ap:∀ j∈js,UB l i j=true
 fr:∀ f:Nat -> Bool,Region.free .any l.toArray (Lj L (js.filter f)) i=true
 rd:∀ f:Nat -> Bool,(Region.ready .any l.toArray (Lj L (js.filter f))).contains i=true
 hv:hs.contains i=true -> ∀ (f:Nat -> Bool),∀ k∈Region.ready .any l.toArray (Lj L (js.filter f)),k=i \/ (k∈js /\ f k=false)
theorem sW {J:List Nat} (h:VH l hs tail J (i :: rest) Ea=true):zBb l hs J i Ea /\ VH l hs tail J rest (Ea.setIfInBounds i true)=true:=by
 unfold VH at h;simp only [Pd,uo,Ru] at h;obtain ⟨⟨⟨⟨h1,h2⟩,h3⟩,h4⟩,h5⟩:=h;rw [Wg] at h3 h4;have h4':=fun f:Nat -> Bool=>h4 _ (xR f J)
 simp only [Pd,ZA,uo] at h4';refine ⟨⟨h1,fun hj=>?_,h3,fun f=>(h4' f).1.1,fun f=>(h4' f).1.2,fun hh f k hk=>?_⟩,h5⟩
 ·rw [ED.2 hj] at h2;cases h2
 ·rcases (h4' f).2 with h6 | h6
  ·rw [hh] at h6;cases h6
  ·rw [Wg] at h6
   have h7:=h6 k hk;simp only [ZA,Qk,Pd,uo,ED] at h7;rcases h7 with h7 | ⟨h7,h8⟩
   ·exact .inl h7
   ·refine .inr ⟨h7,?_⟩
    cases hf:f k
    ·rfl
    ·rw [ED.2 (zl.2 ⟨h7,hf⟩)] at h8;cases h8
structure JsOk (l:List Oper) (J:List Nat):Prop where
 nodup:J.Nodup
 lt:∀ j∈J,j<l.length
 dst:∀ j∈J,∀ k∈J,j≠k -> ∀ t,Me l j=vD t -> Me l k≠vD t
theorem zEz {J:List Nat} (h:GM l J=true):JsOk l J:=by
 unfold GM at h;simp only [Pd,Ru] at h;have h2:=Wg.1 h.2;simp only [Pd,Ru] at h2;refine ⟨h.1,fun j hj=>(h2 j hj).1,fun j hj k hk Ua t e e'=>?_⟩
 have h3:=Wg.1 (h2 j hj).2 k hk;simp only [ZA,Qk,Fh] at h3;rcases h3 with (h3 | h3) | h3
 ·exact Ua h3
 ·rw [e] at h3;cases h3
 ·exact h3 (e.trans e'.symm)
theorem UN {j:Nat} {oj:Oper} (h:l[j]?=vD oj):Me l j=oj.dst:=by
 unfold Me;rw [h]
 rfl
theorem TL (vs:Nat -> vw) (Se:∀ cs b,o.op≠.select cs b) (ho:l[i]?=vD o):∀ (S:List Nat) (a:Act),(∀ j∈S,UB l i j=true) -> execOp (Rg l vs a S).eval o=execOp a.eval o /\ (∀ ops:Array Oper,ops=l.toArray -> Region.wanted o (yielded ops (Rg l vs a S).tmps)=Region.wanted o (yielded ops a.tmps))
 | [],_,_=>⟨rfl,fun _ _=>rfl⟩
 | j :: S,a,h=>by
  have hj:=h j zS;have h0:∃ oj,l[j]?=vD oj:=by
   unfold UB at hj;rw [ho] at hj;cases e:l[j]? with
   | none=>rw [e] at hj;cases hj
   | some oj=>exact ⟨oj,rfl⟩
  obtain ⟨oj,mi⟩:=h0;obtain ⟨a1,a2,a3⟩:=Oper.apart_spec (vY hj ho mi);have ih:=TL vs Se ho S (a.put (Me l j) (vs j)) fun k hk=>h k (by simp [hk])
  rw [UN mi] at ih;refine ⟨?_,fun ops hops=>?_⟩
  ·show execOp (Rg l vs (a.put (Me l j) (vs j)) S).eval o=_
   rw [UN mi];exact ih.1.trans (execOp_put _ Se _ _ _ a3)
  ·show Region.wanted o (yielded ops (Rg l vs (a.put (Me l j) (vs j)) S).tmps)=_
   rw [UN mi];refine (ih.2 ops hops).trans ?_;subst hops;exact wanted_put _ _ _ _ a3
theorem WO {S:List Nat} {vs:Nat -> vw} {v:vw} (ho:l[i]?=vD o) (h:∀ j∈S,UB l i j=true):(Rg l vs a S).put o.dst v=Rg l vs (a.put o.dst v) S:=by
 refine (MW l vs o.dst v S a fun j hj t e e'=>?_).symm
 have hj:=h j hj;cases mi:l[j]? with
 | none=>unfold Me at e';rw [mi] at e';cases e'
 | some oj =>
  obtain ⟨a1,a2,a3⟩:=Oper.apart_spec (vY hj ho mi);rw [UN mi] at e';exact a2 t e e'
theorem TB {J:List Nat} {f:Nat -> Bool} (h:∀ j∈J,UB l i j=true):∀ j∈J.filter f,UB l i j=true:=fun j hj=>h j (zl.1 hj).1
theorem zIo {v:vw} (ho:l[i]?=vD o) (hw:Region.wanted o (yielded l.toArray a.tmps)=true) (hF:Hid (Qh V0 N V w)) (hQ:∀ c a w,Q (.panic c) (a.put o.dst v) w -> Q (.panic c) a w)
  (Rc:∀ w',Ul V0 N w w' -> (execOp a.eval o).run P w'= .ok (.value v) w') (h:uu P l hs tail Q V0 N js rest (Ea.setIfInBounds i true) V (a.put o.dst v) w):uu P l hs tail Q V0 N js (i :: rest) Ea V a w:=by
 intro hn jb hj Tj f gs w1 hb Uk;obtain ⟨C,hr⟩:=sW jb;have k:=h hn hr hj Tj f gs w1 hb Uk;have bA:=C.lt;have e:=nw (h:=bA) ho;subst e;have Se:∀ cs b,l[i].op≠.select cs b:=fun cs b=>Nr hn i l[i] cs b (by rw [im];exact ho)
 have hx:=TL (a:=a) (il gs) Se ho _ (TB (f:=f) C.ap);rw [<- EN (fun hm=>C.nj (zl.1 hm).1),<- WO ho (TB (f:=f) C.ap)] at k
 have:=qo (a:=Rg l (il gs) a ((js.map (·.1)).filter f)) i (Kb V0 N) C.lt hn (C.fr f) (C.rd f) hQ (.inl ⟨by rw [hx.2 _ rfl];exact hw,fun w' ZE=>by rw [hx.1];exact Rc w' (zM (Kb V0 N) (Ld hb hF.out.size) ZE)⟩) k
 rwa [show (i :: rest).length+((js.map (·.1)).filter fun j=>!f j).length+tail.length=rest.length+((js.map (·.1)).filter fun j=>!f j).length+tail.length+1 by simp only [pk];omega]
theorem zIp (ho:l[i]?=vD o) (hw:Region.wanted o (yielded l.toArray a.tmps)=false) (hQ:∀ c a w,Q (.panic c) (a.put o.dst undef) w -> Q (.panic c) a w)
  (h:uu P l hs tail Q V0 N js rest (Ea.setIfInBounds i true) V (a.put o.dst undef) w):uu P l hs tail Q V0 N js (i :: rest) Ea V a w:=by
 intro hn jb hj Tj f gs w1 hb Uk;obtain ⟨C,hr⟩:=sW jb;have k:=h hn hr hj Tj f gs w1 hb Uk;have bA:=C.lt;have e:=nw (h:=bA) ho;subst e;have Se:∀ cs b,l[i].op≠.select cs b:=fun cs b=>Nr hn i l[i] cs b (by rw [im];exact ho)
 have hx:=TL (a:=a) (il gs) Se ho _ (TB (f:=f) C.ap);rw [<- EN (fun hm=>C.nj (zl.1 hm).1),<- WO ho (TB (f:=f) C.ap)] at k
 have:=qo (a:=Rg l (il gs) a ((js.map (·.1)).filter f)) i (Kb V0 N) C.lt hn (C.fr f) (C.rd f) hQ (.inr ⟨by rw [hx.2 _ rfl];exact hw,rfl⟩) k
 rwa [show (i :: rest).length+((js.map (·.1)).filter fun j=>!f j).length+tail.length=rest.length+((js.map (·.1)).filter fun j=>!f j).length+tail.length+1 by simp only [pk];omega]
theorem Ig {a b:Prop} (h:a) (s:Imp a b:=by
 (repeat ((first | (apply Imp.via (zIp rfl rfl (fun _ _ _ h=>h))) | (apply Imp.via (zIo (v:=?_) rfl rfl Fa (fun _ _ _ h=>h) ?hr);case hr=>(intro w' hR;(first | have Yq:=CU ((Kb _ _).trans _ _ _ da hR) | skip);go_simp;try with_reducible rfl)));simp only [vF,zLa,zLb,zLc]))
 exact Imp.rfl'):b:=s h
theorem zEa {J:List (Nat × vy × Array vw)} {k:Nat} (h:k∈J.map (·.1)):∃ x∈J,x.1=k:=by
 obtain ⟨x,hx,e⟩:=Ie.1 h;exact ⟨x,hx,e⟩
theorem zBX {J:List Nat} {f f':Nat -> Bool} {j:Nat} (hn:J.Nodup) (hj:j∈J) (h0:f j=false) (h1:f' j=true) (h2:∀ k,k≠j -> f' k=f k):(J.filter fun k=>!f k).length=(J.filter fun k=>!f' k).length+1:=by
 induction J with
 | nil=>cases hj
 | cons x J ih =>
  obtain ⟨hx,KE⟩:=List.nodup_cons.1 hn;by_cases e:x=j
  ·subst e
   have:J.filter (fun k=>!f k)=J.filter (fun k=>!f' k):=List.filter_congr fun k hk=>by rw [h2 k (by rintro rfl;exact hx hk)]
   rw [WI (by rw [h0];rfl),VI (by rw [h1];exact Ss),this]
   rfl
  ·have bK:j∈J:=by
    rcases Ij.1 hj with h | h
    ·exact absurd h.symm e
    ·exact h
   have:=ih KE bK;cases hf:f x
   ·rw [WI (by rw [hf];rfl),WI (by rw [h2 x e,hf];rfl)]
    simp only [pk];omega
   ·rw [VI (by rw [hf];exact Ss),VI (by rw [h2 x e,hf];exact Ss)]
    exact this
theorem G0 {order:List Nat} (hF:Qh V0 N V w) (hj:GM l (js.map (·.1))=true) (Tj:∀ x∈js,∃ oj,l[x.1]?=vD oj /\ SP P oj x.2.1 x.2.2) {f:Nat -> Bool} {gs:Nat -> Nat} {w1:vv} (hb:vz w.1.size w w1) (Uk:eG V N w1 js f gs) {k:Nat}
  (hk:k∈js.map (·.1)) (hf:f k=false) {fu:Nat} (hfu:order.length+((js.map (·.1)).filter fun j=>!f j).length+tail.length=fu+1)
  (ih:∀ (f':Nat -> Bool) (gs':Nat -> Nat) (w2:vv),((js.map (·.1)).filter fun j=>!f' j).length<((js.map (·.1)).filter fun j=>!f j).length -> vz w.1.size w w2 -> eG V N w2 js f' gs' ->
   rn P l.toArray Q (Ul V0 N) (order.length+((js.map (·.1)).filter fun j=>!f' j).length+tail.length) (Lj Ea ((js.map (·.1)).filter f')) (Rg l (il gs') a ((js.map (·.1)).filter f')) w2) :
  WC P l Q (Ul V0 N) k fu (Lj Ea ((js.map (·.1)).filter f)) (Rg l (il gs) a ((js.map (·.1)).filter f)) w1:=by
 have J:=zEz hj;obtain ⟨x,hx,rfl⟩:=zEa hk;obtain ⟨oj,mi,gj,hmj⟩:=Tj x hx;have ta:=J.lt _ hk;have e:=nw (h:=ta) mi;subst e;refine ⟨ta,by simp [Region.wanted,gj],?_⟩
 unfold Oper.wp;rw [hmj];have ja:vz w1.1.size w1 (w1.alloc (.cells x.2.2 x.2.1)):=(Bb _ w1).alloc zR _;have hVlt:∀ b,V b -> b<w1.1.size:=fun b Hh=>Be (hF.lt b Hh) hb.size
 refine ⟨Ld ja (Cb hF.size hb.size),?_⟩;have Zu:=zBX (f:=f) (f':=fun k=>if k=x.1 then true else f k) J.nodup hk hf (Gb rfl) (fun k Ua=>mb Ua)
 have:=ih (fun k=>if k=x.1 then true else f k) (jI gs x.1 w1.1.size) (w1.alloc (.cells x.2.2 x.2.1)) zO (pa hb ja) ⟨fun y hy hfy=>?_,fun y hy z hz hfy hfz Ua=>?_⟩
 ·rw [<- zBf (f:=f) (f':=fun k=>if k=x.1 then true else f k) hk (Gb rfl) (fun k Ua=>mb Ua),zFZ,
   PW l (il gs) x.1 _ f (fun k=>if k=x.1 then true else f k) _ a J.nodup hk hf (Gb rfl) (fun k _ Ua=>mb Ua) (fun k hk' Ua t e=>J.dst _ hk k hk' (fun e=>Ua e.symm) t e),UN mi] at this
  rwa [show fu=order.length+((js.map (·.1)).filter fun j=>!(if j=x.1 then true else f j)).length+tail.length by omega]
 ·by_cases e:y.1=x.1
  ·have exy:y=x:=by
    refine rI fun Ua=>?_
    obtain ⟨i,hi,rfl⟩:=jt hx;obtain ⟨i',Yz,rfl⟩:=jt hy;have dK:=List.pairwise_iff_getElem.1 J.nodup;by_cases c:i<i'
    ·exact dK i i' (by simpa using hi) (by simpa using Yz) c (by simpa using e.symm)
    ·by_cases c':i'<i
     ·exact dK i' i (by simpa using Yz) (by simpa using hi) c' (by simpa using e)
     ·obtain rfl:i=i':=by omega
      exact Ua rfl
   subst exy;have eg:jI gs y.1 w1.1.size y.1=w1.1.size:=Gb rfl;rw [eg];exact ⟨Blk.new w1 y.2.1 y.2.2,Cb hF.size hb.size,fun hv=>Nat.lt_irrefl _ (hVlt _ hv)⟩
  ·have eg:jI gs x.1 w1.1.size y.1=gs y.1:=mb e
   rw [eg];rw [mb e] at hfy;obtain ⟨b1,b2,b3⟩:=Uk.blk y hy hfy;exact ⟨ma b1 ja,b2,b3⟩
 ·by_cases e1:y.1=x.1
  ·have e2:z.1≠x.1:=fun e2=>Ua (e1.trans e2.symm)
   rw [mb e2] at hfz;have:=(Uk.blk z hz hfz).1.lt;unfold jI;rw [Gb e1,mb e2];omega
  ·rw [mb e1] at hfy
   have hyl:=(Uk.blk y hy hfy).1.lt;by_cases e2:z.1=x.1
   ·unfold jI
    rw [mb e1,Gb e2];omega
   ·rw [mb e2] at hfz
    unfold jI;rw [mb e1,mb e2];exact Uk.dif y hy z hz hfy hfz Ua
theorem zA1 {fuel:Nat} {L:Array Bool} {w:vv} (M:Wd (Ul V0 N)) (Ua:Region.ready .any l.toArray L≠[]) (h:∀ k∈Region.ready .any l.toArray L,WC P l Q (Ul V0 N) k fuel L a w):rn P l.toArray Q (Ul V0 N) (fuel+1) L a w :=
 ⟨fun h0=>absurd h0 Ua,fun k hk=>RS M (h k hk)⟩
theorem zGP {L:Array Bool} (h:(Region.ready .any l.toArray L).contains i=true):Region.ready .any l.toArray L≠[]:=fun e=>by rw [e] at h;simp at h
theorem SX (hh:hs.contains i=true) (ho:l[i]?=vD o) (hF:Hid (Qh V0 N V w))
  (h:∀ (_:Region.noSelect l.toArray=true) (_:i<l.length),VH l hs tail (js.map (·.1)) rest (Ea.setIfInBounds i true)=true -> GM l (js.map (·.1))=true -> (∀ x∈js,∃ oj,l[x.1]?=vD oj /\ SP P oj x.2.1 x.2.2) -> (∀ j∈js.map (·.1),UB l i j=true) -> i ∉ js.map (·.1) ->
   ∀ (f:Nat -> Bool) (gs:Nat -> Nat) (w1:vv),vz w.1.size w w1 -> eG V N w1 js f gs ->
   WC P l Q (Ul V0 N) i (rest.length+((js.map (·.1)).filter fun j=>!f j).length+tail.length) (Lj Ea ((js.map (·.1)).filter f)) (Rg l (il gs) a ((js.map (·.1)).filter f)) w1):uu P l hs tail Q V0 N js (i :: rest) Ea V a w:=by
 intro hn jb hj Tj f gs w1 hb Uk;obtain ⟨C,hr⟩:=sW jb;obtain ⟨m,hm⟩:=zEX (((js.map (·.1)).filter fun j=>!f j).length)
 induction m using Nat.strongRecOn generalizing f gs w1 with
 | ind m ih =>
  subst hm;rw [show (i :: rest).length+((js.map (·.1)).filter fun j=>!f j).length+tail.length=rest.length+((js.map (·.1)).filter fun j=>!f j).length+tail.length+1 by simp only [pk];omega]
  refine zA1 (Kb V0 N) (zGP (C.rd f)) fun k hk=>?_
  rcases C.hv hh f k hk with rfl | ⟨hkj,hkf⟩
  ·exact h hn C.lt hr hj Tj C.ap C.nj f gs w1 hb Uk
  ·refine G0 (order:=i :: rest) (tail:=tail) hF.out hj Tj hb Uk hkj hkf (by simp only [pk];omega) fun f' gs' w2 ta Da dV=>?_
   exact ih _ ta f' gs' w2 Da dV rfl
theorem Hv {f:FuncId} {vals:Array vw} (hh:hs.contains i=true) (ho:l[i]?=vD o) (hw:Region.wanted o (yielded l.toArray a.tmps)=true) (hF:Hid (Qh V0 N V w))
  (Rc:∀ w,(execOp a.eval o).run P w= .ok (.enter f vals) w)
  (h:∀ w1,vz w.1.size w w1 -> vA P f vals w1 fun e w'=>∃ v V',e=vn v /\ Moved V V' w1 w' /\ (∀ b,V' b -> b<w'.1.size) /\ uu P l hs tail Q V0 N js rest (Ea.setIfInBounds i true) V' (a.put o.dst v) w'):uu P l hs tail Q V0 N js (i :: rest) Ea V a w:=by
 refine SX hh ho hF fun hn hi hr hj Tj Yu hnj f' gs w1 hb Uk=>?_
 have e:=nw (h:=hi) ho;subst e;have Se:∀ cs b,l[i].op≠.select cs b:=fun cs b=>Nr hn i l[i] cs b (by rw [im];exact ho)
 have hx:=TL (a:=a) (il gs) Se ho _ (TB (f:=f') Yu);refine PX hi (by rw [hx.2 _ rfl];exact hw) ((h w1 hb).mono ?_) (fun w=>by rw [hx.1];exact Rc w)
 rintro e w' ⟨v,V',rfl,hm,ta,hz⟩;refine ⟨v,rfl,Ri (re hF.out hb) hm,?_⟩;have:=hz hn hr hj Tj f' gs w' (Bb _ _) (AU Uk hm)
 rwa [<- EN (fun hm=>hnj (zl.1 hm).1),<- WO ho (TB (f:=f') Yu)] at this
theorem cN (hh:hs.contains i=true) (ho:l[i]?=vD o) (hw:Region.wanted o (yielded l.toArray a.tmps)=true) (hF:Hid (Qh V0 N V w))
  (h:∀ w1,vz w.1.size w w1 -> ∃ v w' V',(execOp a.eval o).run P w1= .ok (.value v) w' /\ Moved V V' w1 w' /\ (∀ b,V' b -> b<w'.1.size) /\ uu P l hs tail Q V0 N js rest (Ea.setIfInBounds i true) V' (a.put o.dst v) w'):uu P l hs tail Q V0 N js (i :: rest) Ea V a w:=by
 refine SX hh ho hF fun hn hi hr hj Tj Yu hnj f' gs w1 hb Uk=>?_
 have e:=nw (h:=hi) ho;subst e;have Se:∀ cs b,l[i].op≠.select cs b:=fun cs b=>Nr hn i l[i] cs b (by rw [im];exact ho)
 have hx:=TL (a:=a) (il gs) Se ho _ (TB (f:=f') Yu);obtain ⟨v,w',V',Rc,hm,ta,hz⟩:=h w1 hb;refine ⟨hi,by rw [hx.2 _ rfl];exact hw,?_⟩
 unfold Oper.wp;rw [hx.1,Rc];refine ⟨Ri (re hF.out hb) hm,?_⟩;have:=hz hn hr hj Tj f' gs w' (Bb _ _) (AU Uk hm)
 rwa [<- EN (fun hm=>hnj (zl.1 hm).1),<- WO ho (TB (f:=f') Yu)] at this
theorem zHa {t e:vy} {size bytes base n:Nat} {z v:vw} {xs news:List vw} {A:Option vx} {m c:Nat} {o:Oper} {w:vv} (s x:Operand) (hop:o.op= .call { callee:=.builtin .append,args:=#[s,x],argTypes:=#[t,t] }) (E:Lr P t e size bytes z) (hs:a.eval s=v) (hx:a.eval x=ve A m c)
  (oa:w.ownsRow base e size v n xs) (hr:Rd w size A m news) (h1:∀ u∈news,u.oneCell'=true) (lC:(n+m)*(bytes+1) <= 140737488355328) (yk:base <= w.1.size) :
  ∃ v' w',(execOp a.eval o).run P w= .ok (.value v') w' /\ w'.ownsRow base e size v' (n+m) (xs++news) /\ w.grownBy w' v.ownBlock /\ (v'.ownBlock=v.ownBlock \/ v'.ownBlock=vD w.1.size):=by
 obtain ⟨v',w',Rc,h2,h3,h4⟩:=T9 (P:=P) (c:=c) E o.type oa hr h1 lC yk;refine ⟨v',w',?_,h2,h3,h4⟩;unfold execOp;simp only [hop,resolve,invoke,builtin,Sem.run_bind,Sem.run_pure,Result.andThen_ok,List.map_toArray,List.map_cons,List.map_nil,hs,hx,Rc]
theorem AP {t e:vy} {size bytes base n:Nat} {z v:vw} {xs news:List vw} {A:Option vx} {m c:Nat} (hh:hs.contains i=true) (ho:l[i]?=vD o) (hw:Region.wanted o (yielded l.toArray a.tmps)=true) (s x:Operand) (hop:o.op= .call { callee:=.builtin .append,args:=#[s,x],argTypes:=#[t,t] })
  (E:Lr P t e size bytes z) (hs':a.eval s=v) (hx':a.eval x=ve A m c) (hF:Hid (Qh V0 N V w)) (oa:w.ownsRow base e size v n xs) (hr:Rd w size A m news) (h1:∀ u∈news,u.oneCell'=true) (lC:(n+m)*(bytes+1) <= 140737488355328) (yk:base <= w.1.size)
  (hV:∀ b,v.ownBlock=vD b -> V b)
  (h:∀ w1 v' w',vz w.1.size w w1 -> w'.ownsRow base e size v' (n+m) (xs++news) -> Moved V (fun b=>V b \/ v'.ownBlock=vD b) w1 w' -> (∀ b,(V b \/ v'.ownBlock=vD b) -> b<w'.1.size) -> uu P l hs tail Q V0 N js rest (Ea.setIfInBounds i true) (fun b=>V b \/ v'.ownBlock=vD b) (a.put o.dst v') w'):uu P l hs tail Q V0 N js (i :: rest) Ea V a w:=by
 refine SX hh ho hF fun hn hi iq hj Tj Yu hnj f' gs w1 hb Uk=>?_
 have e:=nw (h:=hi) ho;subst e;have Se:∀ cs b,l[i].op≠.select cs b:=fun cs b=>Nr hn i l[i] cs b (by rw [im];exact ho)
 have hx:=TL (a:=a) (il gs) Se ho _ (TB (f:=f') Yu);obtain ⟨v',w',Rc,uH,hg,tb⟩:=zHa (P:=P) s x hop E hs' hx' (yb oa hb zR) (hr.below hb) h1 lC (Cb yk hb.size);have hm:Moved V (fun b=>V b \/ v'.ownBlock=vD b) w1 w':=nW (EO (F:=V) hg hV) fun b Hh=>by
  rcases Hh with h | h
  ·exact .inl h
  ·rcases tb with h2 | h2
   ·exact .inl (hV b (h2.symm.trans h))
   ·rw [h2] at h
    injection h with h
    exact .inr zO
 have ta:∀ b,(V b \/ v'.ownBlock=vD b) -> b<w'.1.size:=fun b Hh=>by
  rcases Hh with h | h
  ·have:=hF.out.lt b h
   have:=hb.size;have:=hg.size;omega
  ·exact (uH.lt b h).2
 have hz:=h w1 v' w' hb uH hm ta;refine ⟨hi,by rw [hx.2 _ rfl];exact hw,?_⟩
 unfold Oper.wp;rw [hx.1,Rc];refine ⟨Ri (re hF.out hb) hm,?_⟩;have:=hz hn iq hj Tj f' gs w' (Bb _ _) (AU Uk hm)
 rwa [<- EN (fun hm=>hnj (zl.1 hm).1),<- WO ho (TB (f:=f') Yu)] at this
theorem Qs (jd:List (Option Tmp × Nat)) (DE:((js.map (·.1)).map fun j=>(Me l j,j))=jd) (hF:Hid (Qh V0 N V w))
  (h:∀ (gs:Nat -> Nat) (w1:vv),vz w.1.size w w1 -> eG V N w1 js (fun _=>true) gs -> po P l hs Q (Ul V0 N) tail (Lj Ea (js.map (·.1))) (jl a (il gs) jd) w1):uu P l hs tail Q V0 N js [] Ea V a w:=by
 intro hn jb hj Tj f gs w1 hb Uk;unfold VH at jb;rw [Pd,Wg] at jb;obtain ⟨jb,hk⟩:=jb;obtain ⟨m,hm⟩:=zEX (((js.map (·.1)).filter fun j=>!f j).length)
 induction m using Nat.strongRecOn generalizing f gs w1 with
 | ind m ih =>
  subst hm;have h1:=jb _ (xR f (js.map (·.1)))
  by_cases Dg:∀ j∈js.map (·.1),f j=true
  ·have e1:(js.map (·.1)).filter f=js.map (·.1):=List.filter_eq_self.2 Dg
   have e2:(js.map (·.1)).filter (fun j=>!f j)=[]:=List.filter_eq_nil_iff.2 fun j bK=>by rw [Dg j bK];exact Ss
   rw [e1,e2,jS,DE];have:=h gs w1 hb ⟨fun x hx _=>Uk.blk x hx (Dg _ (Ie.2 ⟨x,hx,rfl⟩)),fun x hx y hy _ _ Ua=>Uk.dif x hx y hy (Dg _ (Ie.2 ⟨x,hx,rfl⟩)) (Dg _ (Ie.2 ⟨y,hy,rfl⟩)) Ua⟩ hn hk
   simpa using this
  ·have hns:¬((js.map (·.1)).all fun j=>((js.map (·.1)).filter f).contains j)=true:=fun h0=>Dg fun j bK=>by
    have:=Wg.1 h0 j bK;exact (zl.1 (ED.1 this)).2
   rw [ZA] at h1;replace h1:=h1.resolve_left hns;rw [Pd] at h1;obtain ⟨hne0,h2⟩:=h1;have Ua:Region.ready .any l.toArray (Lj Ea ((js.map (·.1)).filter f))≠[]:=by simpa using hne0
   rw [Wg] at h2;have bs:0<((js.map (·.1)).filter fun j=>!f j).length:=by
    obtain ⟨j,bK⟩:=Classical.not_forall.1 Dg;obtain ⟨nH,Zn⟩:=Classical.not_imp.1 bK;exact List.length_pos_of_mem (zl.2 ⟨nH,by simp [Bool.eq_false_iff.2 Zn]⟩)
   obtain ⟨fu,hfu⟩:∃ fu,([]:List Nat).length+((js.map (·.1)).filter fun j=>!f j).length+tail.length=fu+1:=⟨((js.map (·.1)).filter fun j=>!f j).length+tail.length-1,by simp only [List.length_nil];omega⟩
   rw [hfu];refine zA1 (Kb V0 N) Ua fun k hk'=>?_
   have h3:=h2 k hk';simp only [Pd,uo,ED] at h3;have hkf:f k=false:=by
    cases hf:f k
    ·rfl
    ·have:=h3.2
     rw [ED.2 (zl.2 ⟨h3.1,hf⟩)] at this;cases this
   exact G0 (order:=[]) (tail:=tail) hF.out hj Tj hb Uk h3.1 hkf hfu fun f' gs' w2 ta Da dV=>ih _ ta f' gs' w2 Da dV rfl
end
def Jf (V:Nat -> Prop) (w w':vv):Nat -> Prop:=fun b=>V b \/ (w.1.size <= b /\ b<w'.1.size)
theorem Ah {V:Nat -> Prop} {w w':vv} (h:vz w.1.size w w'):Moved V (Jf V w w') w w':=nW (xe (F:=V) h) fun _ hb=>hb.elim .inl fun h=>.inr h.1
theorem om {V0 V:Nat -> Prop} {N:Nat} {w w':vv} (hF:Qh V0 N V w) (h:vz w.1.size w w'):∀ b,Jf V w w' b -> b<w'.1.size:=fun b hb=>hb.elim (fun e=>Be (hF.lt b e) h.size) fun e=>e.2
def NK (ts:List (Int × Nat)):List Nat:=ts.flatMap fun t=>[t.1.toNat,t.2]
def GA (ts:List (Int × Nat)):List Nat:=ts.length :: NK ts
def EM (r:Ya):List Nat:=GA (Cd r 0)++GA (Cd r 1)++GA (Cd r 2)
def Rm (p:Nat) (pub vars:Int) (rows:List Ya):List Nat:=[p,pub.toNat,vars.toNat,rows.length]++rows.flatMap EM
def Cf (p:Nat) (pub vars:Int) (rows:List Ya):Nat:=if Ad p pub vars rows then Dj 21 (Rm p pub vars rows) else 0
def JF (p:Nat) (pub vars:Int) (rows:List Ya) (i:Nat):List Nat:=[p,pub.toNat,vars.toNat,rows.length]++(rows.take i).flatMap EM
def VK (base:List Nat) (r:Ya):Nat -> List Nat
 | 0=>base
 | j+1=>VK base r j++GA (Cd r j)
def QA (base:List Nat) (ts:List (Int × Nat)) (t:Nat):List Nat:=base++ts.length :: NK (ts.take t)
theorem b8 (p:Nat) (pub vars:Int) (rows:List Ya) {i:Nat} (h:i<rows.length):JF p pub vars rows (i+1)=VK (JF p pub vars rows i) rows[i] 3:=by
 unfold JF;rw [ID h,List.flatMap_append];simp [VK,EM]
theorem n8 (base:List Nat) (ts:List (Int × Nat)):QA base ts ts.length=base++GA ts:=by simp [QA,GA]
theorem r8 (base:List Nat) (ts:List (Int × Nat)):QA base ts 0=base++[ts.length]:=by simp [QA,NK]
theorem p8 (base:List Nat) (ts:List (Int × Nat)) {t:Nat} (h:t<ts.length):QA base ts (t+1)=QA base ts t++[(ts.getD t (0,0)).1.toNat,(ts.getD t (0,0)).2]:=by
 unfold QA NK;rw [ID h,List.flatMap_append,Gc,Dc h];simp
theorem Y4 (ts:List (Int × Nat)):(NK ts).length=2*ts.length:=by
 induction ts with
 | nil=>rfl
 | cons t ts ih =>
  show ([t.1.toNat,t.2]++NK ts).length=_
  rw [Pp,ih];simp
  omega
theorem Z4 (base:List Nat) (ts:List (Int × Nat)) {t:Nat} (h:t <= ts.length):(QA base ts t).length=base.length+1+2*t:=by
 unfold QA;rw [Pp,pk,Y4,List.length_take,Nat.min_eq_left h];omega
theorem a8 (p:Nat) (pub vars:Int) (rows:List Ya):JF p pub vars rows rows.length=Rm p pub vars rows:=by simp [JF,Rm]
def GL (p s:Nat) (F G:Nat -> Nat) (t:Nat):Nat -> Nat:=Nh (fun k=>(F k+s*G k%p)%p) F t
def mulF (p N J:Nat) (a b:List Nat):Nat -> Nat:=Ow p N J ((List.range N).map fun i=>xQ p N J a 1 i*xQ p N J b 1 i%p)
def iJ (L:Xa) (rows:List (List Nat)) (l1 l2 l3 l4:List Nat):Bool :=
 decide (rows.length=L.a+L.b+L.b+L.b)&&(rows.all (fun r=>Hz r L.queries L.p)&&(Hz l1 L.k L.p&&(Hz l2 (L.k+L.block-2) L.p&&(Hz l3 (L.block+2*L.queries-1) L.p&&Hz l4 L.n Ob))))
theorem zAS {p b:Nat} (hp:0<p) (hb:0<b) (l:List Nat):∀ i k,Cg p (YA p b l i k:Int) ((if b <= k /\ k<b+i then ((l.getD (k-b) 0:Nat):Int) else 0)-(if k<i then ((l.getD k 0:Nat):Int) else 0))
 | 0,k=>by
  rw [mb zO,mb zO];exact Cg.of_eq rfl
 | i+1,k=>by
  have ih:=zAS hp hb l i;rw [YA];simp only [ui];by_cases h1:k=b+i
  ·subst h1
   rw [Gb rfl,mb zO,Gb zO,Nat.add_sub_cancel_left];have h:=ih (b+i);rw [mb zO] at h;refine (Cg.mod _).trans (Cg.trans (Cg.of_eq (Vv _ _)) ?_);by_cases h2:b+i<i+1
   ·omega
   ·rw [mb h2]
    rw [mb zO] at h;exact (h.add Cg.rfl').trans (Cg.of_eq zO)
  ·rw [mb h1]
   by_cases h2:k=i
   ·subst h2
    rw [Gb rfl,Gb (show k<k+1 by omega)]
    have h:=ih k;rw [mb (by omega:¬k<k)] at h
    refine (Cg.mod _).trans (Cg.trans (Cg.of_eq (Vv _ _)) ?_);have e:(if b <= k /\ k<b+(k+1) then ((l.getD (k-b) 0:Nat):Int) else 0)=(if b <= k /\ k<b+k then ((l.getD (k-b) 0:Nat):Int) else 0):=by
     by_cases h3:b <= k
     ·rw [Gb zO,Gb zO]
     ·rw [mb zO,mb zO]
    rw [e];exact (h.add (GO p _ hp)).trans (Cg.of_eq zO)
   ·rw [mb h2]
    have h:=ih k;refine h.trans (Cg.of_eq ?_)
    congr 1
    ·by_cases h3:b <= k /\ k<b+i
     ·rw [Gb h3,Gb zO]
     ·rw [mb h3,mb zO]
    ·by_cases h3:k<i
     ·rw [Gb h3,Gb zO]
     ·rw [mb h3,mb zO]
theorem XX (p b i:Nat):(ph p b).getD i 0=if i<b+1 then cD p b i else 0:=By _ _ _
theorem Q5 {p b:Nat} (hp:1<p) (hb:0<b) (m:List Nat) (i:Nat):∀ j,j<b -> Cg p ((Yi p (ph p b) m (j+1)).getD i 0:Int) (-((m.getD i 0:Nat):Int))
 | 0,_=>by
  have hz:(ph p b).getD 0 0=p-1:=by rw [XX,Gb zO];rfl
  rw [Yi,FL,pP,mb zO,vS,hz];have e0:(Yi p (ph p b) m 0).getD i 0=0:=by rw [Yi];rfl
  rw [e0,Nat.sub_zero];refine (Cg.mod _).trans ?_;rw [yf];refine (Cg.mod _).trans ?_;rw [Th];have h1:Cg p ((p-1:Nat):Int) (-1):=⟨1,zO⟩;exact ((Cg.rfl' (x:=((m.getD i 0:Nat):Int))).mul h1).trans (Cg.of_eq zO)
 | j+1,hj=>by
  have hz:(ph p b).getD (j+1) 0=0:=by
   rw [XX,Gb zO,cD,mb zO,mb zO]
  rw [zEi _ _ _ _ hz];exact (Cg.mod _).trans (Q5 hp hb m i j zO)
theorem zEl {p b:Nat} (hp:1<p) (hb:0<b) (m:List Nat) (i:Nat):Cg p ((Zh p (ph p b) m).getD i 0:Int) ((if b <= i then ((m.getD (i-b) 0:Nat):Int) else 0)-((m.getD i 0:Nat):Int)):=by
 have hz:(ph p b).getD b 0=1:=by rw [XX,Gb zO,cD,mb zO,Gb rfl]
 obtain ⟨c,rfl⟩:∃ c,b=c+1:=⟨b-1,zO⟩;rw [Zh,dG,Yi,FL,pP,vS,hz,Nat.mul_one];have h:=Q5 hp hb m i c zO;refine (Cg.mod _).trans (Cg.trans (Cg.of_eq (Vv _ _)) ?_);by_cases h1:i<c+1
 ·rw [Gb h1,mb zO]
  exact (h.add Cg.rfl').trans (Cg.of_eq zO)
 ·rw [mb h1,Gb zO]
  exact (h.add (Cg.mod _)).trans (Cg.of_eq zO)
theorem R5 {p b:Nat} (hp:1<p) (hb:0<b) (m:List Nat) (i:Nat):(Zh p (ph p b) m).getD i 0=YA p b m m.length i:=by
 refine Cg.eq (p:=p) ((zEl hp hb m i).trans (Cg.trans (Cg.of_eq ?_) (zAS zO hb m m.length i).symm)) (zEj zO _ _ _ _) (LS zO _ _ _)
 congr 1
 ·by_cases h1:b <= i
  ·rw [Gb h1]
   by_cases h2:i<b+m.length
   ·rw [Gb ⟨h1,h2⟩]
   ·rw [mb zO,uJ zO];rfl
  ·rw [mb h1,mb zO]
 ·by_cases h1:i<m.length
  ·rw [Gb h1]
  ·rw [mb h1,uJ zO];rfl
theorem FU {p a b:Nat}:∀ k,Cg p (QG p a b k:Int) ((a:Int)*b^k)
 | 0=>Cg.of_eq (by rw [QG,Int.pow_zero,Int.mul_one])
 | k+1=>by
  rw [QG];refine (Cg.mod _).trans ?_;rw [Th,Ku,<- Int.mul_assoc];exact (FU k).mul Cg.rfl'
theorem zB8 {p s n:Nat} (k:Nat):Cg p (Ni p s n k:Int) ((s:Int)*(Zj p n:Int)^k):=(FU k).trans ((Cg.mod s).mul Cg.rfl')
theorem BZ (a:Nat -> Int) (x:Int):∀ n,me a x (n+1)=a 0+x*me (fun i=>a (i+1)) x n
 | 0=>by simp [me]
 | n+1=>by
  rw [me,BZ a x n,me,Ku]
  grind
theorem rV {p x:Nat}:∀ l:List Nat,Cg p (Kl p x l:Int) (me (fun i=>((l.getD i 0:Nat):Int)) (x:Int) l.length)
 | []=>Cg.rfl'
 | c :: l=>by
  rw [Kl,pk,BZ];refine (Cg.mod _).trans (Cg.trans (Cg.of_eq (Vv _ _)) ?_);refine (((Cg.mod (Kl p x l*x)).trans (Cg.trans (Cg.of_eq (Th _ _)) ((rV l).mul Cg.rfl'))).add Cg.rfl').trans (Cg.of_eq ?_);show me (fun i=>((l.getD i 0:Nat):Int)) (x:Int) l.length*(x:Int)+c=(c:Int)+x*me (fun i=>((l.getD i 0:Nat):Int)) (x:Int) l.length
  rw [Int.mul_comm,Int.add_comm]
theorem U7 {p x:Nat}:∀ k,Cg p (Ji p x k:Int) ((x:Int)^k)
 | 0=>Cg.rfl'
 | k+1=>by
  rw [Ji];refine (Cg.mod _).trans ?_;rw [Th,Ku];exact (U7 k).mul Cg.rfl'
theorem DZ {p x:Nat} (l:List Nat):∀ k,Cg p (evS p l (Ji p x) k:Int) (me (fun i=>((l.getD i 0:Nat):Int)) (x:Int) k)
 | 0=>Cg.rfl'
 | k+1=>by
  rw [evS,me];refine (Cg.mod _).trans (Cg.trans (Cg.of_eq (Vv _ _)) ?_);refine (DZ l k).add ((Cg.mod _).trans ?_);rw [Th];exact Cg.rfl'.mul (U7 k)
theorem GZ {p x:Nat} (l:List Nat):Cg p (Re p l x:Int) (me (fun i=>((l.getD i 0:Nat):Int)) (x:Int) l.length):=DZ l _
theorem ZN {p:Nat} (hp:0<p) (l:List Nat) (x:Nat):Re p l x<p:=by
 rw [Re];cases l.length with
 | zero=>exact hp
 | succ k=>exact Ic _ hp
theorem zDE {p n i:Nat} {w v:Int} (h1:Cg p (w^n) 1) (h2:Cg p (w*v) 1) (hi:i<n):Cg p (w^((n-i)%n)) (v^i):=by
 have h3:Cg p (w^((n-i)%n)*w^i) 1:=by
  rcases Nu i with h | h
  ·subst h
   rw [Nat.sub_zero,Nat.mod_self];exact Cg.of_eq zS
  ·rw [Om zO,<- Int.pow_add,show n-i+i=n by omega]
   exact h1
 have h4:=zDD h2 i;have h5:Cg p (w^((n-i)%n)) (w^((n-i)%n)*(v^i*w^i)):=(Cg.of_eq (Int.mul_one _).symm).trans (Cg.rfl'.mul h4.symm);refine h5.trans ((Cg.of_eq ?_).trans ((h3.mul Cg.rfl').trans (Cg.of_eq (Int.one_mul _))));rw [Int.mul_comm (v^i),Int.mul_assoc]
theorem K3 {p j:Nat} (l:List Nat) (h:jc p=true) (hn:Mr p l.length) (hj:l.length=2^j) {i:Nat} (hi:i<l.length):Wt p l 1 i=Ow p l.length j l i:=by
 have hp:=tc h;refine Cg.eq (p:=p) ?_ (Ic _ zO) (Ic _ zO);refine Cg.trans ?_ (LV l h hn hj hi).symm;refine (Cg.mod _).trans ?_;rw [Th,Int.mul_comm];have e1:(1%p)^(p-2)%p=1:=by rw [Om (show 1<p by omega),Nat.one_pow,Om zO]
 rw [e1];refine Cg.mul ((FU i).trans (Cg.of_eq ?_)) ?_
 ·rw [show ((1:Nat):Int)=1 from rfl,Int.one_pow,Int.mul_one]
 ·rw [JV]
  refine (rV l).trans (oJ (fun _=>Cg.rfl') ?_ _)
  refine (zB8 _).trans (Cg.trans (Cg.of_eq ?_) (zDE (E9 h hn) (N3 h hn) hi));exact Int.one_mul _
def yR (L:Xa) (msg zh:List Nat):List Nat:=(List.range (L.block+zh.length)).map (BR L msg zh)
def mS (L:Xa) (q:List Nat):List Nat:=(List.range (L.block+q.length)).map (YA L.p L.block q q.length)
theorem zG1 {L:Xa} (hL:ed L) {msg zh:List Nat} (h1:msg.length=L.block) (h2:zh.length=L.queries):Xw L msg zh=yR L msg zh:=by
 have hp:=tc hL.p;have hb:=hL.b1;have hk:=hL.k;obtain ⟨hlen,j,hj⟩:=RH hL;have pM:L.block.log2=j:=by rw [hj];exact Nat.log2_two_pow
 have ki:(Xw L msg zh).length=L.block+zh.length:=by
  rw [Xw,E7];have h3:=RB L.p ((List.range msg.length).map (Wt L.p msg 1)) (Zh L.p (ph L.p L.block) zh);have h4:=yF L.p (ph L.p L.block) zh;rw [dG] at h4;rw [dw,Lx] at h3;omega
 refine DO (by rw [ki,yR,dw,Lx]) fun i hi=>?_
 rw [ki] at hi;rw [Xw,D7,FL,By,R5 zO zO,yR,By,Gb hi,BR,Q7];by_cases h3:i<L.block
 ·rw [Gb zO,Gb h3,pM,K3 (j:=j) msg hL.p (by rw [h1];exact hlen) (by rw [h1];exact hj) zO,h1,Nat.add_comm]
 ·rw [mb zO,mb h3,yf]
  exact Om (LS zO _ _ _)
theorem zF5 {L:Xa} (hL:ed L) {q:List Nat} (h:q.length=L.block+2*L.queries-1):qn L q=mS L q:=by
 have hp:=tc hL.p;have hb:=hL.b1;have hk:=hL.k;have ki:(qn L q).length=L.block+q.length:=by
  rw [qn,E7];have h4:=yF L.p (ph L.p L.block) q;rw [dG] at h4;omega
 refine DO (by rw [ki,mS,dw,Lx]) fun i hi=>?_
 rw [ki] at hi;rw [qn,D7,R5 zO zO,mS,By,Gb hi]
def tX (p:Nat) (f:Nat -> Nat):Nat -> Nat
 | 0=>0
 | k+1=>(tX p f k+f k)%p
theorem O7:∀ (n:Nat) (f:Nat -> Nat),(∀ i,i<n+1 -> f i<n) -> (∀ i j,i<n+1 -> j<n+1 -> f i=f j -> i=j) -> False
 | 0,f,h,_=>absurd (h 0 zO) (Nat.not_lt_zero _)
 | n+1,f,h,hi=>by
  have Ua:∀ i,i<n+1 -> f i≠f (n+1):=fun i h1 e=>by
   have:=hi i (n+1) zO zO e;omega
  refine O7 n (fun i=>if f i=n then f (n+1) else f i) (fun i h1=>?_) fun i j h1 h2 e=>?_
  ·split
   ·rename_i e
    have h3:=Ua i h1;have h4:=h (n+1) zO;omega
   ·have:=h i zO
    omega
  ·change (if f i=n then f (n+1) else f i)=(if f j=n then f (n+1) else f j) at e
   by_cases e1:f i=n <;> by_cases e2:f j=n
   ·exact hi i j zO zO zO
   ·rw [Gb e1,mb e2] at e
    exact absurd e.symm (Ua j h2)
   ·rw [mb e1,Gb e2] at e
    exact absurd e (Ua i h1)
   ·rw [mb e1,mb e2] at e
    exact hi i j zO zO e
theorem onto {n:Nat} {f:Nat -> Nat} (h:∀ i,i<n -> f i<n) (hi:∀ i j,i<n -> j<n -> f i=f j -> i=j) {y:Nat} (hy:y<n):∃ i,i<n /\ f i=y:=by
 refine rI fun Iw=>?_
 have Ua:∀ i,i<n -> f i≠y:=fun i h1 e=>Iw ⟨i,h1,e⟩
 obtain ⟨m,rfl⟩:∃ m,n=m+1:=⟨n-1,zO⟩;refine O7 m (fun i=>if f i=m then y else f i) (fun i h1=>?_) fun i j h1 h2 e=>?_
 ·split
  ·rename_i e
   have:=Ua i h1;omega
  ·have:=h i h1
   omega
 ·change (if f i=m then y else f i)=(if f j=m then y else f j) at e
  by_cases e1:f i=m <;> by_cases e2:f j=m
  ·exact hi i j h1 h2 zO
  ·rw [Gb e1,mb e2] at e
   exact absurd e.symm (Ua j h2)
  ·rw [mb e1,Gb e2] at e
   exact absurd e (Ua i h1)
  ·rw [mb e1,mb e2] at e
   exact hi i j h1 h2 e
theorem zBZ (B:Nat) (v:List Nat) (n:Nat):(Rq B v n).length=n:=by simp [Rq]
theorem MG (B:Nat) (l:Nat -> List Nat) (ps:Nat -> Nat):∀ i,(Qq B l ps (i+1)).length=(Qq B l ps i).length+ps i:=fun i=>by rw [iU,Pp,zBZ]
theorem oW (L:Xa) (rows:List Ya) (ws:List Nat) (pu:Nat):(xF L rows ws pu).length=L.a+L.b+L.b+L.b:=by
 unfold xF Ct;rw [MG,MG,MG,MG];show 0+L.a+L.b+L.b+L.b=_
 omega
theorem aZ {B:Nat} {l:Nat -> List Nat} {ps:Nat -> Nat} {r:List Nat} (h:r∈Ct B l ps):∃ i k,i<4 /\ k<ps i /\ r=RD B (l i) k:=by
 unfold Ct Qq at h;obtain ⟨i,hi,hr⟩:=List.mem_flatMap.1 h;obtain ⟨k,hk,rfl⟩:=Ie.1 hr;exact ⟨i,k,Lm.1 hi,Lm.1 hk,rfl⟩
theorem zEh {L:Xa} {rows:List Ya} {ws:List Nat} {pu:Nat} {r:List Nat} (h:r∈xF L rows ws pu):r.length=L.block:=by
 obtain ⟨i,k,-,-,rfl⟩:=aZ h;simp [RD]
theorem O0 {l:List Nat} {p:Nat} (hp:0<p) (h:∀ x∈l,x<p) (i:Nat):l.getD i 0<p:=by
 rw [Gc];cases e:l[i]? with
 | none=>exact hp
 | some x=>exact h x (List.mem_of_getElem? e)
def QF (p:Nat) (a b:List Nat):List Nat:=yg p a (Ol p b (Qf p 1))
theorem zGI (p:Nat) (A B:Option vx) (n c m d:Nat) (a b:List Nat) (w:vv) (hp:jc p=true) (ha:RWd w [ve A n c] a) (hb:RWd w [ve B m d] b) (hn:n <= 100000) (hm:m <= 100000) :
  vA prog 123 #[vd vq p,ve A n c,ve B m d] w fun e w'=>∃ v,e=vn v /\ RWd w' [v] (QF p a b) /\ vz w.1.size w w':=by
 have Zb:=(Mb hb).1;have HN:=zH (fun w=>O8 p 1 w hp)
 have zG:=zH (fun A n c s l w hl hn=>oS p A n c s l w hp hl hn)
 have HA:=zH (fun A B n c m d a b w ha hb hn hm=>YK p A B n c m d a b w hp ha hb hn hm)
 have HL:=zH (show (Ol p b (Qf p 1)).length <= 100000 by have:=PC p b (Qf p 1);omega)
 obtain ⟨x,hx⟩:=zEX (Qf p 1);unfold QF;rw [<- hx] at HN HL |-;clear hx Zb hp;go_enter func123,ntmps123
 go_wp2_with fail
 refine (HN.out _).mono ?_;rintro e w1 ⟨rfl,La⟩;have Rn:=Sa La ha;have hb1':=Sa La hb;go_wp2_with fail
 refine (zG.out _ _ _ x _ _ hb1' zO).mono ?_;rintro e w2 ⟨v2,rfl,h2,Da⟩;have XG:=Sa Da Rn;obtain ⟨A2,c2,rfl⟩:=Sg h2;go_wp2_with fail
 refine (HA.out _ _ _ _ _ _ _ _ _ XG h2 zO (zQ HL.out)).mono ?_;rintro e w3 ⟨v3,rfl,h3,Ta⟩;go_wp2;go_ret
 exact ⟨_,rfl,h3,pa (pa La Da) Ta⟩
def zt (p:Nat) (rows:List (List Nat)) (al:Nat):Nat -> List Nat
 | 0=>[]
 | i+1=>yg p (zt p rows al i) (Ol p (rows.getD i []) (Ji p al (i+1)))
def Fs (p:Nat) (rows ws:List (List Nat)):Nat -> List Nat
 | 0=>[]
 | i+1=>yg p (Fs p rows ws i) (Zh p (ws.getD i []) (rows.getD i []))
def aM (p a b:Nat) (rows:List (List Nat)) (j:Nat):List Nat:=QF p (Zh p (rows.getD (a+j) []) (rows.getD (a+b+j) [])) (rows.getD (a+b+b+j) [])
def lu (p a b:Nat) (rows:List (List Nat)) (be:Nat):Nat -> List Nat
 | 0=>[]
 | j+1=>yg p (lu p a b rows be j) (Ol p (aM p a b rows j) (Ji p be (j+1)))
theorem dM {rows:List (List Nat)} {M:Nat} (h:∀ r∈rows,r.length <= M) (i:Nat):(rows.getD i []).length <= M:=by
 rw [Gc];by_cases hi:i<rows.length
 ·rw [Dc hi];exact h _ (pg hi)
 ·rw [Kx zO];exact Rb _
theorem dU {p al M:Nat} {rows:List (List Nat)} (h:∀ r∈rows,r.length <= M):∀ i,(zt p rows al i).length <= M
 | 0=>Rb _
 | i+1=>by
  have h1:=RB p (zt p rows al i) (Ol p (rows.getD i []) (Ji p al (i+1)));have h2:=PC p (rows.getD i []) (Ji p al (i+1));have h3:=dU (p:=p) (al:=al) h i;have h4:=dM h i;rw [zt];omega
theorem dW {p M m:Nat} {rows ws:List (List Nat)} (h:∀ r∈rows,r.length <= M) (h2:∀ r∈ws,r.length <= m):∀ i,(Fs p rows ws i).length <= m-1+M
 | 0=>Rb _
 | i+1=>by
  have h3:=RB p (Fs p rows ws i) (Zh p (ws.getD i []) (rows.getD i []));have h4:=yF p (ws.getD i []) (rows.getD i []);have h5:=dW (p:=p) h h2 i;have h6:=dM h i;have h7:=dM h2 i;rw [Fs];omega
theorem zAj (p:Nat) (a b:List Nat):(QF p a b).length <= max a.length b.length:=by
 have h1:=RB p a (Ol p b (Qf p 1));have h2:=PC p b (Qf p 1);unfold QF;omega
theorem zC3 {p a b M:Nat} {rows:List (List Nat)} (h:∀ r∈rows,r.length <= M) (j:Nat):(aM p a b rows j).length <= M-1+M:=by
 have h1:=zAj p (Zh p (rows.getD (a+j) []) (rows.getD (a+b+j) [])) (rows.getD (a+b+b+j) []);have h2:=yF p (rows.getD (a+j) []) (rows.getD (a+b+j) []);have h3:=dM h (a+j);have h4:=dM h (a+b+j);have h5:=dM h (a+b+b+j);unfold aM;omega
theorem QW {p a b be M:Nat} {rows:List (List Nat)} (h:∀ r∈rows,r.length <= M):∀ i,(lu p a b rows be i).length <= M-1+M
 | 0=>Rb _
 | i+1=>by
  have h1:=RB p (lu p a b rows be i) (Ol p (aM p a b rows i) (Ji p be (i+1)));have h2:=PC p (aM p a b rows i) (Ji p be (i+1));have h3:=QW (p:=p) (a:=a) (b:=b) (be:=be) h i;have h4:=zC3 (p:=p) (a:=a) (b:=b) h i;rw [lu];omega
theorem bX (w:vv):RWd w [ve vB 0 0] []:=⟨vB,0,0,rfl,zR,by simp [maxLen],⟨rfl,fun h=>absurd h zO⟩,fun x hx=>by cases hx⟩
theorem ZB {rows:List (List Nat)} {i:Nat} (h:i<rows.length):rows.getD i []=rows[i]:=by rw [Gc,Dc h];rfl
theorem zF8 (L:Xa) (A:Option vx) (n c al:Nat) (rows:List (List Nat)) (w:vv) (hL:ed L) (hr:Ye w [ve A n c] rows) (af:∀ r∈rows,r.length <= 1000) :
  vA prog 112 #[vf (Eb L),ve A n c,vd vq al] w fun e w'=>∃ v,e=vn v /\ RWd w' [v] (zt L.p rows al n) /\ vz w.1.size w w':=by
 obtain ⟨Ng,Mz,Pz,QE⟩:=Ki hr;have gm:=Mh Mz Pz;have HM:=zH (fun x y w=>RA L.p x y w hL.p)
 have zG:=zH (fun A n c s l w hl hn=>oS L.p A n c s l w hL.p hl hn)
 have HA:=zH (fun A B n c m d a b w ha hb hn hm=>YK L.p A B n c m d a b w hL.p ha hb hn hm)
 have xx:=zH (dU (p:=L.p) (al:=al) af);have Sh:=zH af;have mz:=zH (fun a s=>PC L.p a s)
 obtain ⟨D,hD⟩:=zEX (zt L.p rows al);obtain ⟨P,hP⟩:=zEX (Ji L.p al);have HDS:=zH (show ∀ i,D (i+1)=yg L.p (D i) (Ol L.p (rows.getD i []) (P (i+1))) from fun i=>by rw [hD,hP];rfl)
 rw [<- hD] at xx |-;have HD0:=zH (show D 0=[] by rw [hD];rfl)
 have Wl:=zH (show P 0=1 by rw [hP];rfl)
 have Xl:=zH (show ∀ i,P (i+1)=P i*al%L.p from fun i=>by rw [hP];rfl)
 have sB:=zH Ng;clear hD hP Ng Mz Pz hL hr af;unfold Eb at *;obtain ⟨kl,ba⟩:=zN w 38 #[vd vq L.p,vd vt L.block,vd vt L.queries,vd vt L.k,vd vt L.n,vd vt L.secret,vd vt L.rows,vd vt L.a,vd vt L.b,vd vt L.b,vd vt L.b];go_enter func112,ntmps112
 go_wp2_with fail
 generalize w.alloc _=w1 at kl ba |-;go_loopw [7,8,9] (fun u b y wr=>∃ (i:Nat) (v:vw),v=u /\ i <= n /\ y=vd vt i /\ b=vd vq (P i:Int) /\ RWd wr [v] (D i) /\ Blk wr w.1.size 38 #[vd vq L.p,vd vt L.block,vd vt L.queries,vd vt L.k,vd vt L.n,vd vt L.secret,vd vt L.rows,vd vt L.a,vd vt L.b,vd vt L.b,vd vt L.b] /\ vz w.1.size w wr) (fun _ _ y _=>n-(intOf y).toNat)
 case atStart=>exact ⟨0,_,rfl,Rb _,rfl,by rw [Wl.out];rfl,by rw [HD0.out];exact bX _,kl,ba⟩
 case round =>
  clear kl ba;obtain ⟨i,v,rfl,hi,rfl,rfl,hv,kl,ba⟩:=hrel;by_cases ta:i<n
  ·have q1:(i:Int)<n:=by omega
   have q2:(0:Int)<=i:=by omega
   have Xo:i<rows.length:=by rw [sB.out];exact ta
   obtain ⟨b1,Ik,A1,n1,c1,rfl,Vm,yd,Pf⟩:=yp QE Xo;have Bo:=zH (HDS.out i);have HPi:=zH (Xl.out i);rw [ZB Xo] at Bo;have ki:=Sh.out _ (pg Xo);obtain ⟨x,hx⟩:=zEX (rows[i]);rw [<- hx] at Pf ki Bo;have Fg:=(Mb Pf).1;have ue:=Sa ba Pf;obtain ⟨y0,py⟩:=zEX (P i);obtain ⟨y1,ff⟩:=zEX (P (i+1));rw [<- py,<- ff] at HPi;rw [<- ff] at Bo;rw [<- py];have HY1:=zH ff;have og:Hid (∀ w:vv,vA prog 122 #[vd vq L.p,vd vq y0,vd vq al] w fun e w'=>e=vn (vd vq y1) /\ vz w.1.size w w'):=zH (fun w=>by rw [HPi.out];exact HM.out y0 al w)
   have nG:=zH (xx.out i);have Np:=zH (mz.out x y1);have ij:=zH ki;have Eu:=zH Fg;clear hx py ff ki Fg Pf;obtain ⟨Av,cv,rfl⟩:=Sg hv;have cl:=kl.cell;have ll:=kl.lt;go_wp2_with fail
   refine (og.out _).mono ?_;rintro e w6 ⟨rfl,ra⟩;replace kl:=ma kl ra;replace ba:=pa ba ra;replace hv:=Sa ra hv;replace ue:=Sa ra ue;clear ra cl ll;have OD:=(ba.cell (p:=⟨b1,Ik+i,vB⟩) Vm).trans yd;have mF:b1<w6.1.size:=Be Vm ba.size;have cl:=kl.cell;have ll:=kl.lt;go_upto_region 7 with fail
   refine Yc (yc) [10,11] [0,1,2,3,4,5,6,7,8,9,10,11,12] zK zK ?_;refine Td (ya) ?_;intro Wc Ca da;have Ma:=Lf Ca;replace kl:=ma kl Ma;replace ba:=pa ba Ma;replace hv:=Sa Ma hv;replace ue:=Sa Ma ue;refine dc ?_;refine pd ya rfl rfl rfl ((zG.out _ _ _ _ _ _ ue (by have:=ij.out;have:=Eu.out;omega)).mono ?_)
   rintro e w7 ⟨v7,rfl,h7,Vb⟩;refine ⟨_,rfl,Vb,?_⟩;replace da:=zM ya da (Vb);refine zPU ?_;replace kl:=ma kl Vb;replace ba:=pa ba Vb;replace hv:=Sa Vb hv;obtain ⟨A7,c7,rfl⟩:=Sg h7;refine dc ?_;refine pd ya rfl rfl rfl ((HA.out _ _ _ _ _ _ _ _ _ hv h7 (zQ nG.out) (by have:=ij.out;have:=Np.out;omega)).mono ?_)
   rintro e w8 ⟨v8,rfl,h8,ud⟩;refine ⟨_,rfl,ud,?_⟩;replace da:=zM ya da (ud);refine zPU ?_;replace kl:=ma kl ud;replace ba:=pa ba ud;refine dc ?_;refine Ec ?_;rw [<- Bo.out] at h8;clear Ma Vb ud da Ca OD mF cl ll h7 hv ue;go_wp2_with fail
   go_roundw
   case rel=>exact ⟨i+1,_,rfl,zO,by go_num,by rw [HY1.out],h8,kl,ba⟩
   case measure=>simp [intOf];omega
  ·obtain rfl:i=n:=by omega
   have q1:¬((i:Int)<i):=by omega
   go_wp2;go_ret
   exact ⟨_,rfl,hv,ba⟩
theorem zGl (L:Xa) (A B:Option vx) (n c m d:Nat) (rows ws:List (List Nat)) (w:vv) (hL:ed L) (hr:Ye w [ve A n c] rows) (hs:Ye w [ve B m d] ws) (hnm:n <= m) (af:∀ r∈rows,r.length <= 1000) (ny:∀ r∈ws,r.length <= 1000) :
  vA prog 113 #[vf (Eb L),ve A n c,ve B m d] w fun e w'=>∃ v,e=vn v /\ RWd w' [v] (Fs L.p rows ws n) /\ vz w.1.size w w':=by
 obtain ⟨Ng,Mz,Pz,QE⟩:=Ki hr;obtain ⟨Yo,-,-,hrb⟩:=Ki hs;have gm:=Mh Mz Pz;have CI:=zH (fun A B n c m d a b w ha hb hn hm=>YO L.p A B n c m d a b w hL.p ha hb hn hm)
 have HA:=zH (fun A B n c m d a b w ha hb hn hm=>YK L.p A B n c m d a b w hL.p ha hb hn hm)
 have xx:=zH (dW (p:=L.p) af ny);have Sh:=zH af;have mz:=zH ny;have rB:=zH (fun a b=>yF L.p a b)
 obtain ⟨D,hD⟩:=zEX (Fs L.p rows ws);have HDS:=zH (show ∀ i,D (i+1)=yg L.p (D i) (Zh L.p (ws.getD i []) (rows.getD i [])) from fun i=>by rw [hD];rfl)
 rw [<- hD] at xx |-;have HD0:=zH (show D 0=[] by rw [hD];rfl)
 have sB:=zH Ng;have pG:=zH Yo;have HNM:=zH hnm;have HII:=zH (fun (i:Nat) (h:i<n)=>show (i:Int)<m by omega)
 clear hD Ng Yo Mz Pz hL hr hs af ny hnm;unfold Eb at *;obtain ⟨kl,ba⟩:=zN w 38 #[vd vq L.p,vd vt L.block,vd vt L.queries,vd vt L.k,vd vt L.n,vd vt L.secret,vd vt L.rows,vd vt L.a,vd vt L.b,vd vt L.b,vd vt L.b];go_enter func113,ntmps113
 go_wp2_with fail
 generalize w.alloc _=w1 at kl ba |-;go_loopw [7,8] (fun u y wr=>∃ (i:Nat) (v:vw),v=u /\ i <= n /\ y=vd vt i /\ RWd wr [v] (D i) /\ Blk wr w.1.size 38 #[vd vq L.p,vd vt L.block,vd vt L.queries,vd vt L.k,vd vt L.n,vd vt L.secret,vd vt L.rows,vd vt L.a,vd vt L.b,vd vt L.b,vd vt L.b] /\ vz w.1.size w wr) (fun _ y _=>n-(intOf y).toNat)
 case atStart=>exact ⟨0,_,rfl,Rb _,rfl,by rw [HD0.out];exact bX _,kl,ba⟩
 case round =>
  clear kl ba;obtain ⟨i,v,rfl,hi,rfl,hv,kl,ba⟩:=hrel;by_cases ta:i<n
  ·have q1:(i:Int)<n:=by omega
   have q2:(0:Int)<=i:=by omega
   have q3:=HII.out i ta;have Xo:i<rows.length:=by rw [sB.out];exact ta
   have Bw:i<ws.length:=by rw [pG.out];have:=HNM.out;omega
   obtain ⟨b1,Ik,A1,n1,c1,rfl,Vm,yd,Pf⟩:=yp QE Xo;obtain ⟨b2,q2',A2,n2,c2,rfl,Vn,Rf,ue⟩:=yp hrb Bw;have Bo:=zH (HDS.out i);rw [ZB Xo,ZB Bw] at Bo;have ki:=Sh.out _ (pg Xo);have ir:=mz.out _ (pg Bw);obtain ⟨x,hx⟩:=zEX (rows[i]);obtain ⟨z,hz⟩:=zEX (ws[i]);rw [<- hx] at Pf ki Bo;rw [<- hz] at ue ir Bo;have Eu:=zH (And.intro (Mb Pf).1 ki);have yx:=zH (And.intro (Mb ue).1 ir);replace Pf:=Sa ba Pf;replace ue:=Sa ba ue;have nG:=zH (xx.out i);have HMi:=zH (rB.out z x);clear hx hz ki ir;obtain ⟨Av,cv,rfl⟩:=Sg hv;have OD:=(ba.cell (p:=⟨b1,Ik+i,vB⟩) Vm).trans yd;have mF:b1<wr.1.size:=Be Vm ba.size;have cc2:=(ba.cell (p:=⟨b2,q2'+i,vB⟩) Vn).trans Rf;have lb2:b2<wr.1.size:=Be Vn ba.size;have cl:=kl.cell;have ll:=kl.lt;go_upto_region 5 with fail
   refine Yc (yc) [13,14] [0,1,2,3,4,5,6,7,8,9,10,11,12,13,14,15] zK zK ?_;refine Td (ya) ?_;intro Wc Ca da;have Ma:=Lf Ca;replace kl:=ma kl Ma;replace ba:=pa ba Ma;replace hv:=Sa Ma hv;replace Pf:=Sa Ma Pf;replace ue:=Sa Ma ue;refine dc ?_;refine pd ya rfl rfl rfl ((CI.out _ _ _ _ _ _ _ _ _ ue Pf (zQ yx.out) (zQ Eu.out)).mono ?_);rintro e w7 ⟨v7,rfl,h7,Vb⟩;refine ⟨_,rfl,Vb,?_⟩;replace da:=zM ya da (Vb);refine zPU ?_;replace kl:=ma kl Vb;replace ba:=pa ba Vb;replace hv:=Sa Vb hv;obtain ⟨A7,c7,rfl⟩:=Sg h7;refine dc ?_;refine pd ya rfl rfl rfl ((HA.out _ _ _ _ _ _ _ _ _ hv h7 (zQ nG.out) (by have:=Eu.out;have:=yx.out;have:=HMi.out;omega)).mono ?_)
   rintro e w8 ⟨v8,rfl,h8,ud⟩;refine ⟨_,rfl,ud,?_⟩;replace da:=zM ya da (ud);refine zPU ?_;replace kl:=ma kl ud;replace ba:=pa ba ud;refine dc ?_;refine Ec ?_;rw [<- Bo.out] at h8;clear Ma Vb ud da Ca OD cc2 mF lb2 cl ll h7 hv Pf ue;go_wp2_with fail
   go_roundw
   case rel=>exact ⟨i+1,_,rfl,zO,by go_num,h8,kl,ba⟩
   case measure=>simp [intOf];omega
  ·obtain rfl:i=n:=by omega
   have q1:¬((i:Int)<i):=by omega
   go_wp2;go_ret
   exact ⟨_,rfl,hv,ba⟩
theorem zGy (L:Xa) (A:Option vx) (n c be:Nat) (rows:List (List Nat)) (w:vv) (hL:ed L) (hr:Ye w [ve A n c] rows) (af:∀ r∈rows,r.length <= 1000) (hn:L.a+L.b+L.b+L.b=n) :
  vA prog 55 #[vf (Eb L),ve A n c,vd vq be] w fun e w'=>∃ v,e=vn v /\ RWd w' [v] (lu L.p L.a L.b rows be L.b) /\ vz w.1.size w w':=by
 obtain ⟨Ng,Mz,Pz,QE⟩:=Ki hr;have gm:=Mh Mz Pz;have Ew:=hL.a;have Fw:=hL.b;have HM:=zH (fun x y w=>RA L.p x y w hL.p)
 have CI:=zH (fun A B n c m d a b w ha hb hn hm=>YO L.p A B n c m d a b w hL.p ha hb hn hm)
 have HSu:=zH (fun A B n c m d a b w ha hb hn hm=>zGI L.p A B n c m d a b w hL.p ha hb hn hm)
 have zG:=zH (fun A n c s l w hl hn=>oS L.p A n c s l w hL.p hl hn)
 have HA:=zH (fun A B n c m d a b w ha hb hn hm=>YK L.p A B n c m d a b w hL.p ha hb hn hm)
 have xx:=zH (QW (p:=L.p) (a:=L.a) (b:=L.b) (be:=be) af);have Sh:=zH af;have mz:=zH (fun a s=>PC L.p a s)
 have rB:=zH (fun a b=>yF L.p a b)
 have HSuL:=zH (fun a b=>zAj L.p a b)
 obtain ⟨D,hD⟩:=zEX (lu L.p L.a L.b rows be);obtain ⟨P,hP⟩:=zEX (Ji L.p be);obtain ⟨y,hy⟩:=zEX (L.a+L.b);obtain ⟨z,hz⟩:=zEX (L.a+L.b+L.b);have HDS:=zH (show ∀ i,D (i+1)=yg L.p (D i) (Ol L.p (QF L.p (Zh L.p (rows.getD (L.a+i) []) (rows.getD (y+i) [])) (rows.getD (z+i) [])) (P (i+1))) from fun i=>by rw [hD,hP,hy,hz];rfl)
 rw [<- hD] at xx |-;have HD0:=zH (show D 0=[] by rw [hD];rfl)
 have Wl:=zH (show P 0=1 by rw [hP];rfl)
 have Xl:=zH (show ∀ i,P (i+1)=P i*be%L.p from fun i=>by rw [hP];rfl)
 have e1:(L.a:Int)+L.b=(y:Int):=by omega
 have e2:=Ud y;have e3:(y:Int)+L.b=(z:Int):=by omega
 have e4:=Ud z;have sB:=zH Ng;have HIX:=zH (show ∀ i,i<L.b -> L.a+i<n /\ y+i<n /\ z+i<n /\ n <= 400000 from fun i hi=>zO)
 have gb:(L.b:Int) <= 100000:=by omega
 clear hD hP Ng Mz Pz hL hr af hy hz Ew Fw hn;unfold Eb at *;obtain ⟨kl,ba⟩:=zN w 38 #[vd vq L.p,vd vt L.block,vd vt L.queries,vd vt L.k,vd vt L.n,vd vt L.secret,vd vt L.rows,vd vt L.a,vd vt L.b,vd vt L.b,vd vt L.b];go_enter func55,ntmps55
 go_upto_region 2 with fail
 generalize w.alloc _=w1 at kl ba |-;have cl:=kl.cell;go_wp2_with fail
 clear cl;go_loopw [7,11,12] (fun u b t wr=>∃ (i:Nat) (v:vw),v=u /\ i <= L.b /\ t=vd vt i /\ b=vd vq (P i:Int) /\ RWd wr [v] (D i) /\ Blk wr w.1.size 38 #[vd vq L.p,vd vt L.block,vd vt L.queries,vd vt L.k,vd vt L.n,vd vt L.secret,vd vt L.rows,vd vt L.a,vd vt L.b,vd vt L.b,vd vt L.b] /\ vz w.1.size w wr) (fun _ _ t _=>L.b-(intOf t).toNat)
 case atStart=>exact ⟨0,_,rfl,Rb _,rfl,by rw [Wl.out];rfl,by rw [HD0.out];exact bX _,kl,ba⟩
 case round =>
  clear kl ba;obtain ⟨i,v,rfl,hi,rfl,rfl,hv,kl,ba⟩:=hrel;by_cases ta:i<L.b
  ·have q1:(i:Int)<L.b:=by omega
   obtain ⟨h1,h2,h3,h4⟩:=HIX.out i ta;obtain ⟨j1,nH⟩:=zEX (L.a+i);obtain ⟨j2,Zn⟩:=zEX (y+i);obtain ⟨j3,Sj⟩:=zEX (z+i);have Bo:=zH (HDS.out i);rw [<- nH,<- Zn,<- Sj] at Bo;rw [<- nH] at h1;rw [<- Zn] at h2;rw [<- Sj] at h3;have f1:(L.a:Int)+i=(j1:Int):=by omega
   have f2:(y:Int)+i=(j2:Int):=by omega
   have f3:(z:Int)+i=(j3:Int):=by omega
   have f4:=Ud j1;have f5:=Ud j2;have f6:=Ud j3;have r1:(0:Int)<=j1:=by omega
   have r2:(0:Int)<=j2:=by omega
   have r3:(0:Int)<=j3:=by omega
   have r4:(j1:Int)<n:=by omega
   have r5:(j2:Int)<n:=by omega
   have r6:(j3:Int)<n:=by omega
   clear nH Zn Sj h4;have g1:j1<rows.length:=by rw [sB.out];exact h1
   have g2:j2<rows.length:=by rw [sB.out];exact h2
   have g3:j3<rows.length:=by rw [sB.out];exact h3
   obtain ⟨b1,Ik,A1,n1,c1,rfl,Zb,yd,Pf⟩:=yp QE g1;obtain ⟨b2,q2',A2,n2,c2,hA,-,Rf,ue⟩:=yp QE g2
   injection hA with hA;injection hA with xJ yJ hA3;subst xJ yJ
   obtain ⟨b3,q3',A3,n3,c3,hA,-,uj,eo⟩:=yp QE g3
   injection hA with hA;injection hA with xJ yJ hA3;subst xJ yJ
   rw [ZB g1,ZB g2,ZB g3] at Bo;have HPi:=zH (Xl.out i);have ki:=Sh.out _ (pg g1);have ir:=Sh.out _ (pg g2);have Dw:=Sh.out _ (pg g3);obtain ⟨x1,Zc⟩:=zEX (rows[j1]);obtain ⟨x2,dh⟩:=zEX (rows[j2]);obtain ⟨x3,Es⟩:=zEX (rows[j3]);rw [<- Zc] at Pf ki Bo;rw [<- dh] at ue ir Bo;rw [<- Es] at eo Dw Bo;have Eu:=zH (And.intro (Mb Pf).1 ki);have yx:=zH (And.intro (Mb ue).1 ir);have HN3:=zH (And.intro (Mb eo).1 Dw);replace Pf:=Sa ba Pf;replace ue:=Sa ba ue;replace eo:=Sa ba eo;obtain ⟨y0,py⟩:=zEX (P i);obtain ⟨y1,ff⟩:=zEX (P (i+1));rw [<- py,<- ff] at HPi;rw [<- ff] at Bo;rw [<- py];have HY1:=zH ff;have og:Hid (∀ w:vv,vA prog 122 #[vd vq L.p,vd vq y0,vd vq be] w fun e w'=>e=vn (vd vq y1) /\ vz w.1.size w w'):=zH (fun w=>by rw [HPi.out];exact HM.out y0 be w)
   have nG:=zH (xx.out i);have HMi:=zH (rB.out x1 x2);obtain ⟨xy,hxy⟩:=zEX (Zh L.p x1 x2);rw [<- hxy] at HMi Bo;have Np:=zH (HSuL.out xy x3);obtain ⟨gp,Yn⟩:=zEX (QF L.p xy x3);rw [<- Yn] at Np Bo;have OI:=zH (mz.out gp y1);have HXY:=zH hxy;have Xs:=zH Yn;clear Zc dh Es py ff ki ir Dw hxy Yn;obtain ⟨Av,cv,rfl⟩:=Sg hv;have cl:=kl.cell;have ll:=kl.lt;go_wp2_with fail
   refine (og.out _).mono ?_;rintro e w6 ⟨rfl,ra⟩;replace kl:=ma kl ra;replace ba:=pa ba ra;replace hv:=Sa ra hv;replace Pf:=Sa ra Pf;replace ue:=Sa ra ue;replace eo:=Sa ra eo;clear ra cl ll;have OD:=(ba.cell (p:=⟨b1,Ik+j1,vB⟩) Zb).trans yd;have cc2:=(ba.cell (p:=⟨b1,Ik+j2,vB⟩) Zb).trans Rf;have cc3:=(ba.cell (p:=⟨b1,Ik+j3,vB⟩) Zb).trans uj;have mF:b1<w6.1.size:=Be Zb ba.size;have cl:=kl.cell;have ll:=kl.lt;go_upto_region 10 with fail
   refine Yc (yc) [16,23] [0,1,2,3,4,5,6,7,8,9,10,11,12,13,14,15,17,18,19,20,21,22,16,23,24] zK zK ?_;refine Td (ya) ?_;intro Wc Ca da;have Ma:=Lf Ca;replace kl:=ma kl Ma;replace ba:=pa ba Ma;replace hv:=Sa Ma hv;replace Pf:=Sa Ma Pf;replace ue:=Sa Ma ue;replace eo:=Sa Ma eo;refine dc ?_;refine pd ya rfl rfl rfl ((CI.out _ _ _ _ _ _ _ _ _ Pf ue (zQ Eu.out) (zQ yx.out)).mono ?_);rintro e w7 ⟨v7,rfl,h7,Vb⟩;refine ⟨_,rfl,Vb,?_⟩;replace da:=zM ya da (Vb);refine zPU ?_;replace kl:=ma kl Vb;replace ba:=pa ba Vb;replace hv:=Sa Vb hv;replace eo:=Sa Vb eo;rw [<- HXY.out] at h7;obtain ⟨A7,c7,rfl⟩:=Sg h7;refine dc ?_;refine pd ya rfl rfl rfl ((HSu.out _ _ _ _ _ _ _ _ _ h7 eo (by have:=HMi.out;have:=Eu.out;have:=yx.out;omega) (zQ HN3.out)).mono ?_)
   rintro e w8 ⟨v8,rfl,h8,ud⟩;refine ⟨_,rfl,ud,?_⟩;replace da:=zM ya da (ud);refine zPU ?_;replace kl:=ma kl ud;replace ba:=pa ba ud;replace hv:=Sa ud hv;refine dc ?_;refine Ec ?_;rw [<- Xs.out] at h8;obtain ⟨A8,c8,rfl⟩:=Sg h8;clear Ma Vb ud da Ca OD cc2 cc3 mF cl ll h7 Pf ue eo;have cl:=kl.cell;have ll:=kl.lt;go_upto_region 11 with fail
   refine Yc (yc) [7,8] [0,1,2,3,4,5,6,7,8,9] zK zK ?_;refine Td (ya) ?_;intro Wc Ca da;have Ma:=Lf Ca;replace kl:=ma kl Ma;replace ba:=pa ba Ma;replace hv:=Sa Ma hv;replace h8:=Sa Ma h8;refine dc ?_;refine pd ya rfl rfl rfl ((zG.out _ _ _ _ _ _ h8 (by have:=Np.out;have:=HMi.out;have:=Eu.out;have:=yx.out;have:=HN3.out;omega)).mono ?_)
   rintro e w9 ⟨v9,rfl,h9,tg⟩;refine ⟨_,rfl,tg,?_⟩;replace da:=zM ya da (tg);refine zPU ?_;replace kl:=ma kl tg;replace ba:=pa ba tg;replace hv:=Sa tg hv;obtain ⟨A9,c9,rfl⟩:=Sg h9;refine dc ?_;refine pd ya rfl rfl rfl ((HA.out _ _ _ _ _ _ _ _ _ hv h9 (zQ nG.out) (by have:=OI.out;have:=Np.out;have:=HMi.out;have:=Eu.out;have:=yx.out;have:=HN3.out;omega)).mono ?_)
   rintro e tu ⟨v10,rfl,h10,sg⟩;refine ⟨_,rfl,sg,?_⟩;replace da:=zM ya da (sg);refine zPU ?_;replace kl:=ma kl sg;replace ba:=pa ba sg;refine dc ?_;refine Ec ?_;rw [<- Bo.out] at h10;clear Ma tg sg da Ca cl ll h8 h9 hv;go_wp2_with fail
   go_roundw
   case rel=>exact ⟨i+1,_,rfl,zO,by go_num,by rw [HY1.out],h10,kl,ba⟩
   case measure=>simp [intOf];omega
  ·obtain rfl:i=L.b:=by omega
   have q1:¬((L.b:Int)<L.b):=by omega
   have cl:=kl.cell;have ll:=kl.lt;go_wp2;go_ret
   exact ⟨_,rfl,hv,ba⟩
end Go.Proofs.YtodmnanljoaocaaGreat
