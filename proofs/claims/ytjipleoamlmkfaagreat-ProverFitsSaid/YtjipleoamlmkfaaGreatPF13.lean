/- A part of the proof. No condition. -/
import Derived.Test.YtjipleoamlmkfaaGreatProg
import Derived.Test.YtjipleoamlmkfaaGreatPF6
import Derived.BigQuiet
import Derived.Deep.QuietTactic
import Derived.Test.YtjipleoamlmkfaaGreatPF3

set_option maxRecDepth 100000
set_option maxHeartbeats 8000000
set_option linter.unusedVariables false
set_option linter.unusedSimpArgs false
namespace Go.Proofs.YtjipleoamlmkfaaGreat
open Go.RowKit
theorem di {P:Program} {l:List Oper} {hs:List Nat} {Q:Exit -> Act -> World -> Prop} {R:World -> World -> Prop} {ta:Array Bool} {a:Act} {w:World} (M:uc R) {order:List Nat} (h:∀ W,Hid (W=w) -> R w W -> Mi P l hs Q R order ta a W):Mi P l hs Q R order ta a w:=h w rfl (M.refl w)
theorem XU {g:Nat} {w w':World} (h:Below w.heap.size w w'):tg g w w':=Uh (Lc w _) h zR
abbrev bV:=(Nat -> Value) -> (Nat -> Prop) -> World -> Prop
structure yh where
 i:Nat
 deps:List Nat
 eat:List Nat
def dc (l:List Oper) (j:Nat):Option Tmp:=(l[j]?).bind (·.dst)
def vd (l:List Oper) (vs:Nat -> Value) (a:Act) (js:List Nat):Act:=js.foldl (fun a j=>a.put (dc l j) (vs j)) a
def Mw:List (Nat × bV) -> Nat -> bV
 | [],_=>fun _ _ _=>True
 | (k,p) :: r,j=>if Nat.beq k j then p else Mw r j
theorem ZE (l:List Oper) (vs:Nat -> Value) (d:Option Tmp) (v:Value):∀ (js:List Nat) (a:Act),(∀ j∈js,∀ t,d=some t -> dc l j≠some t) -> vd l vs (a.put d v) js=(vd l vs a js).put d v
 | [],_,_=>rfl
 | j :: js,a,h=>by
  show vd l vs ((a.put d v).put (dc l j) (vs j)) js=_
  rw [Act.put_comm a v (vs j) (h j (by simp))]
  exact ZE l vs d v js _ fun k hk=>h k (by simp [hk])
theorem QJ (l:List Oper) {vs us:Nat -> Value}:∀ (js:List Nat) (a:Act),(∀ j∈js,vs j=us j) -> vd l vs a js=vd l us a js
 | [],_,_=>rfl
 | j :: js,a,h=>by
  show vd l vs (a.put (dc l j) (vs j)) js=vd l us (a.put (dc l j) (us j)) js
  rw [h j (by simp)]
  exact QJ l js _ fun k hk=>h k (by simp [hk])
def Jh (vs:Nat -> Value) (i:Nat) (v:Value):Nat -> Value:=fun j=>if j=i then v else vs j
theorem JK (vs:Nat -> Value) (i:Nat) (v:Value):Jh vs i v i=v:=if_pos rfl
theorem IF {vs:Nat -> Value} {i j:Nat} {v:Value} (h:j≠i):Jh vs i v j=vs j:=if_neg h
theorem bF (l:List Oper) (vs:Nat -> Value) (i:Nat) (v:Value) (f f':Nat -> Bool):∀ (js:List Nat) (a:Act),js.Nodup -> i∈js -> f i=false -> f' i=true -> (∀ j∈js,j≠i -> f' j=f j) ->
  (∀ j∈js,j≠i -> ∀ t,dc l i=some t -> dc l j≠some t) -> vd l (Jh vs i v) a (js.filter f')=(vd l vs a (js.filter f)).put (dc l i) v
 | [],_,_,h,_,_,_,_=>by cases h
 | j :: js,a,hn,hi,h0,h1,h2,h3=>by
  obtain ⟨hj,CY⟩:=List.nodup_cons.1 hn;by_cases e:j=i
  ·subst e
   have hf:js.filter f'=js.filter f:=List.filter_congr fun k hk=>h2 k (by simp [hk]) (by rintro rfl;exact hj hk)
   rw [List.filter_cons_of_pos h1,List.filter_cons_of_neg (by rw [h0];exact Bool.false_ne_true),hf]
   show vd l (Jh vs j v) (a.put (dc l j) (Jh vs j v j)) _=_
   rw [JK,ZE _ _ _ _ _ _ (fun k hk=>h3 k (by simp [(List.mem_filter.1 hk).1]) (by rintro rfl;exact hj (List.mem_filter.1 hk).1))]
   rw [QJ l _ a fun k hk=>IF (by rintro rfl;exact hj (List.mem_filter.1 hk).1)]
  ·have Jt:i∈js:=by
    rcases List.mem_cons.1 hi with h | h
    ·exact absurd h.symm e
    ·exact h
   have key:=fun a=>bF l vs i v f f' js a CY Jt h0 h1 (fun k hk=>h2 k (by simp [hk])) fun k hk=>h3 k (by simp [hk])
   have e2:=h2 j (by simp) e
   cases hfj:f j
   ·rw [List.filter_cons_of_neg (by rw [e2,hfj];exact Bool.false_ne_true),List.filter_cons_of_neg (by rw [hfj];exact Bool.false_ne_true)]
    exact key a
   ·rw [List.filter_cons_of_pos (by rw [e2,hfj]),List.filter_cons_of_pos hfj]
    show vd l (Jh vs i v) (a.put (dc l j) (Jh vs i v j)) _=(vd l vs (a.put (dc l j) (vs j)) _).put _ _
    rw [IF e];exact key _
theorem LB (l:List Oper) (vs:Nat -> Value) (t:Tmp):∀ (js:List Nat) (a:Act),(∀ j∈js,dc l j≠some t) -> (vd l vs a js).eval (.tmp t)=a.eval (.tmp t)
 | [],_,_=>rfl
 | j :: js,a,h=>by
  show (vd l vs (a.put (dc l j) (vs j)) js).eval _=_
  rw [LB l vs t js _ fun k hk=>h k (by simp [hk])]
  exact Act.eval_put fun d hd he=>h j (by simp) (by rw [hd];injection he with he;rw [he])
theorem aF (l:List Oper) (vs:Nat -> Value) (t:Tmp) (j:Nat) (hd:dc l j=some t):∀ (js:List Nat) (a:Act),j∈js -> (∀ k∈js,k≠j -> dc l k≠some t) -> (vd l vs a js).eval (.tmp t)=if t<a.tmps.size then vs j else undef
 | [],_,h,_=>by cases h
 | k :: js,a,h,Ka=>by
  show (vd l vs (a.put (dc l k) (vs k)) js).eval _=_
  by_cases hj:j∈js
  ·rw [aF l vs t j hd js _ hj fun m hm=>Ka m (by simp [hm])]
   have e:(a.put (dc l k) (vs k)).tmps.size=a.tmps.size:=by cases h:dc l k <;> simp [Act.put]
   rw [e]
  ·obtain rfl:j=k:=by
    rcases List.mem_cons.1 h with h | h
    ·exact h
    ·exact absurd h hj
   rw [LB l vs t js _ fun m hm=>Ka m (by simp [hm]) fun e=>hj (e ▸ hm),hd]
   by_cases ht:t<a.tmps.size <;> simp [Act.eval,Act.put,ht]
def Oi (B:Nat) (X:Nat -> Prop) (w w':World):Prop:=w'.os=w.os /\ w'.tape=w.tape /\ w'.output=w.output /\ w.heap.size <= w'.heap.size /\ ∀ b,b<B -> ¬X b -> w'.heap[b]?=w.heap[b]?
theorem zM {B:Nat} {X:Nat -> Prop} {a b c:World} (h:Oi B X a b) (k:Oi B X b c):Oi B X a c :=
 ⟨k.1.trans h.1,k.2.1.trans h.2.1,k.2.2.1.trans h.2.2.1,Nat.le_trans h.2.2.2.1 k.2.2.2.1,fun g h1 h2=>(k.2.2.2.2 g h1 h2).trans (h.2.2.2.2 g h1 h2)⟩
theorem yM (B:Nat) (X:Nat -> Prop) (w:World):Oi B X w w:=⟨rfl,rfl,rfl,zR,fun _ _ _=>rfl⟩
def yl (B:Nat) (X:Nat -> Prop) (own:Nat -> Nat) (w:World) (i:Nat):Nat -> Prop:=fun b=>b<w.heap.size /\ (B <= b \/ X b) /\ own b=i
def um (P:Program) (x:Sem Next) (w:World) (K:Value -> World -> Prop):Prop :=
 (∃ v w',x.run P w= .ok (.value v) w' /\ K v w') \/ (∃ w',x.run P w= .ok .skip w' /\ K undef w') \/ (∃ f vals,x.run P w= .ok (.enter f vals) w /\ Calls P f vals w fun e w'=>∃ v,e= .returned v /\ K v w')
theorem qM {P:Program} {o:Oper} {a:Act} {w:World} {K:Act -> World -> Prop} {Q:Exit -> Act -> World -> Prop} (h:um P (execOp a.eval o) w fun v w'=>K (a.put o.dst v) w'):o.wp P a w K Q:=by
 unfold Oper.wp;rcases h with ⟨v,w',h1,h2⟩ | ⟨w',h1,h2⟩ | ⟨f,vals,h1,h2⟩
 ·rw [h1];exact h2
 ·rw [h1];exact h2
 ·rw [h1]
  refine Calls.mono h2 ?_;rintro e w' ⟨v,rfl,h3⟩;exact h3
theorem iD {P:Program} {x:Sem Next} {w w':World} {K:Value -> World -> Prop} {v:Value} (h:x.run P w= .ok (.value v) w') (hK:K v w'):um P x w K:=.inl ⟨v,w',h,hK⟩
theorem QZ {P:Program} {x:Sem Next} {w:World} {K:Value -> World -> Prop} {f:FuncId} {vals:Array Value} {post:Ending -> World -> Prop} (h:x.run P w= .ok (.enter f vals) w) (hc:Calls P f vals w post) (hK:∀ e w',post e w' -> ∃ v,e= .returned v /\ K v w'):um P x w K:=.inr (.inr ⟨f,vals,h,hc.mono hK⟩)
def zq (l:List Oper) (i j:Nat):Bool:=match l[i]? with | some o=>(o.after.any fun e=>Region.binds .any e&&e.on == j) | none=>false
def AB (l:List Oper) (i:Nat):List Tmp:=match l[i]? with | some o=>(o.op.operands.toList.filterMap fun | .tmp t=>some t | _=>none) | none=>[]
def Iw (l:List Oper) (L0:Array Bool):List Nat -> List Nat -> Bool
 | _,[]=>true
 | pre,i :: rest=>(match l[i]? with | some o=>o.guard.isNone&&!L0.getD i true&&o.after.all (fun e=>!Region.binds .any e||L0.getD e.on false||(pre.contains e.on&&decide (e.on<l.length))) | none=>true)&&Iw l L0 (i :: pre) rest
def zB (l:List Oper) (T:List yh) (L0:Array Bool):Bool :=
 L0.size == l.length&&(T.map (·.i)).Nodup&&Iw l L0 [] (T.map (·.i)) &&
 (T.all fun s=>T.all fun t=>s.i == t.i||(dc l s.i).isNone||dc l s.i != dc l t.i) &&
 (T.all fun s=>(AB l s.i).all fun x=>T.all fun t=>dc l t.i != some x||s.deps.contains t.i) &&
 (T.all fun s=>s.deps.all fun j=>(T.any fun t=>t.i == j)&&(decide (l.length <= j)||zq l s.i j)) &&
 (T.all fun s=>s.eat.all fun j=>s.deps.contains j&&T.all fun t=>t.i == s.i||!t.deps.contains j) &&
 ((List.range l.length).all fun i=>L0.getD i true||(T.any fun t=>t.i == i)||((T.all fun t=>decide (l.length <= t.i)||zq l i t.i)||(List.range l.length).any fun j=>!L0.getD j true&&!(T.any fun t=>t.i == j)&&zq l i j))
def oA (P:Program) (l:List Oper) (p:Nat -> bV) (B:Nat) (X:Nat -> Prop) (w0:World) (a0:Act) (s:yh):Prop :=
 ∀ (o:Oper),l[s.i]?=some o -> ∀ (w:World) (vs:Nat -> Value) (F:Nat -> Nat -> Prop),Oi B X w0 w -> (∀ j∈s.deps,p j vs (F j) w /\ ∀ b,F j b -> b<w.heap.size /\ (B <= b \/ X b)) -> (∀ j k b,j≠k -> F j b -> ¬F k b) ->
  um P (execOp (vd l vs a0 (s.deps.filter (·<l.length))).eval o) w fun v w'=>Oi B X w w' /\ (∀ b,b<w.heap.size -> (∀ j∈s.eat,¬F j b) -> w'.heap[b]?=w.heap[b]?) /\ p s.i (Jh vs s.i v) (fun b=>(w.heap.size <= b /\ b<w'.heap.size) \/ ∃ j∈s.eat,F j b) w'
def tx (p:Nat -> bV) (B:Nat) (X:Nat -> Prop) (w0:World) (s:yh):Prop :=
 ∀ (vs us:Nat -> Value) (F:Nat -> Prop) (w w':World),Oi B X w0 w -> Oi B X w w' -> (∀ m∈s.i :: s.deps,us m=vs m) -> (∀ b,F b -> b<w.heap.size) -> (∀ b,F b -> w'.heap[b]?=w.heap[b]?) -> p s.i vs F w -> p s.i us F w'
section
variable {P:Program} {l:List Oper} {Q:Exit -> Act -> World -> Prop} {R:World -> World -> Prop} {T:List yh} {p:Nat -> bV} {B:Nat} {X:Nat -> Prop} {w0:World} {a0:Act} {L0:Array Bool}
structure jA (l:List Oper) (T:List yh) (p:Nat -> bV) (B:Nat) (X:Nat -> Prop) (w0:World) (a0:Act) (L0 L:Array Bool) (vs:Nat -> Value) (own:Nat -> Nat) (a:Act) (w:World):Prop where
 size:L.size=l.length
 old:∀ i:Nat,L0.getD i true=true -> L.getD i true=true
 new:∀ i:Nat,L.getD i true=true -> L0.getD i true=true \/ ∃ t∈T,t.i=i
 eff:Oi B X w0 w
 act:a=vd l vs a0 ((T.map (·.i)).filter fun j=>L.getD j true&&!L0.getD j true)
 facts:∀ s∈T,L.getD s.i true=true -> (∀ k∈T,s.i∈k.eat -> L.getD k.i true=false) -> p s.i vs (yl B X own w s.i) w
theorem iH {i j:Nat} (h:zq l i j=true):∃ o,l[i]?=some o /\ ∃ e∈o.after,Region.binds .any e=true /\ e.on=j:=by
 unfold zq at h;split at h
 ·rename_i o ho
  simp only [Array.any_eq_true] at h;obtain ⟨k,hk,he⟩:=h;simp only [Bool.and_eq_true,beq_iff_eq] at he;exact ⟨o,ho,o.after[k],Array.getElem_mem hk,he.1,he.2⟩
 ·cases h
theorem Jw:∀ (js pre:List Nat),Iw l L0 pre js=true -> ∀ i∈js,∀ o,l[i]?=some o -> o.guard=none /\ L0.getD i true=false
 | [],_,_,i,hi,_,_=>by cases hi
 | j :: js,pre,h,i,hi,o,ho=>by
  unfold Iw at h;rw [Bool.and_eq_true] at h;rcases List.mem_cons.1 hi with rfl | hi
  ·have h1:=h.1
   rw [ho] at h1;simp only [Bool.and_eq_true,Bool.not_eq_true',Option.isNone_iff_eq_none] at h1;exact ⟨h1.1.1,h1.1.2⟩
  ·exact Jw js _ h.2 i hi o ho
theorem jJ {L:Array Bool} (hs:L.size=l.length) (h0:∀ i:Nat,L0.getD i true=true -> L.getD i true=true) (Ra:L0.size=l.length):∀ (js pre:List Nat),Iw l L0 pre js=true -> (∀ i∈pre,L.getD i true=true) -> (∃ i∈js,L.getD i true=false) -> ∃ i∈js,i∈Region.ready .any l.toArray L
 | [],_,_,_,⟨i,hi,_⟩=>by cases hi
 | j :: js,pre,h,hp,hx=>by
  unfold Iw at h;rw [Bool.and_eq_true] at h;cases hj:L.getD j true
  ·refine ⟨j,by simp,?_⟩
   have oa:j<l.length:=by
    rcases Nat.lt_or_ge j l.length with h | h
    ·exact h
    ·rw [<- hs] at h
     simp [Nat.not_lt.2 h] at hj
   have ho:l[j]?=some l[j]:=List.getElem?_eq_getElem oa;have h1:=h.1;rw [ho] at h1;simp only [Bool.and_eq_true] at h1;have h2:=h1.2;rw [Array.all_eq_true] at h2;refine mem_ready.2 ⟨hj,l[j],by rw [List.getElem?_toArray];exact ho,fun e he hb=>?_⟩
   obtain ⟨k,hk,rfl⟩:=Array.getElem_of_mem he;have h3:=h2 k hk;rw [hb] at h3;simp only [Bool.not_true,Bool.false_or,Bool.or_eq_true] at h3;have key:∀ n:Nat,n<l.length -> L.getD n true=true -> L.getD n false=true:=fun n hn h=>by
    rw [<- hs] at hn
    simpa [hn] using h
   rcases h3 with h3 | h3
   ·have hn:l.toArray[j].after[k].on<l.length:=by
     rcases Nat.lt_or_ge (l[j].after[k].on) l.length with h | h
     ·exact h
     ·rw [<- Ra] at h
      have tY:L0.getD (l[j].after[k].on) false=true:=h3;simp [Nat.not_lt.2 h] at tY
    refine key _ hn (h0 _ ?_);rw [<- Ra] at hn;have tY:L0.getD (l[j].after[k].on) false=true:=h3;have CY:l[j].after[k].on<L0.size:=hn;simp [CY] at tY |-
    exact tY
   ·rw [Bool.and_eq_true,decide_eq_true_eq,List.contains_iff_mem] at h3
    exact key _ h3.2 (hp _ h3.1)
  ·obtain ⟨i,hi,h'⟩:=hx
   have Ka:i∈js:=by
    rcases List.mem_cons.1 hi with rfl | hi
    ·rw [hj] at h';cases h'
    ·exact hi
   obtain ⟨k,hk,hr⟩:=jJ hs h0 Ra js (j :: pre) h.2 (by intro i hi;rcases List.mem_cons.1 hi with rfl | hi;exact hj;exact hp i hi) ⟨i,Ka,h'⟩
   exact ⟨k,by simp [hk],hr⟩
theorem fH {P:Program} {x:Sem Next} {w:World} {K K':Value -> World -> Prop} (h:∀ v w',K v w' -> K' v w') (hd:um P x w K):um P x w K':=by
 rcases hd with ⟨v,w',h1,h2⟩ | ⟨w',h1,h2⟩ | ⟨f,vals,h1,h2⟩
 ·exact .inl ⟨v,w',h1,h _ _ h2⟩
 ·exact .inr (.inl ⟨w',h1,h _ _ h2⟩)
 ·exact .inr (.inr ⟨f,vals,h1,h2.mono fun e w' ⟨v,he,hk⟩=>⟨v,he,h _ _ hk⟩⟩)
structure iA (l:List Oper) (T:List yh) (L0:Array Bool):Prop where
 size:L0.size=l.length
 nodup:(T.map (·.i)).Nodup
 topo:Iw l L0 [] (T.map (·.i))=true
 dst:∀ s∈T,∀ t∈T,s.i≠t.i -> ∀ x,dc l s.i=some x -> dc l t.i≠some x
 opers:∀ s∈T,∀ x∈AB l s.i,∀ t∈T,dc l t.i=some x -> t.i∈s.deps
 deps:∀ s∈T,∀ j∈s.deps,(∃ t∈T,t.i=j) /\ (l.length <= j \/ zq l s.i j=true)
 eat:∀ s∈T,∀ j∈s.eat,j∈s.deps /\ ∀ t∈T,t.i≠s.i -> j ∉ t.deps
 tail:∀ i,i<l.length -> L0.getD i true=false -> (∀ t∈T,t.i≠i) -> (∀ t∈T,l.length <= t.i \/ zq l i t.i=true) \/ ∃ j,j<l.length /\ L0.getD j true=false /\ (∀ t∈T,t.i≠j) /\ zq l i j=true
theorem iJ (h:zB l T L0=true):iA l T L0:=by
 unfold zB at h;simp only [Bool.and_eq_true,List.all_eq_true,List.any_eq_true,Bool.or_eq_true,beq_iff_eq,decide_eq_true_eq,List.contains_iff_mem,bne_iff_ne,ne_eq,Bool.not_eq_true',Option.isNone_iff_eq_none] at h;obtain ⟨⟨⟨⟨⟨⟨⟨h1,h2⟩,h3⟩,h4⟩,h5⟩,h6⟩,h7⟩,h8⟩:=h;refine ⟨h1,h2,h3,?_,?_,?_,?_,?_⟩
 ·intro s hs t ht Ka x hx
  rcases h4 s hs t ht with (e | e) | e
  ·exact absurd e Ka
  ·rw [e] at hx;cases hx
  ·rw [hx] at e;exact fun e'=>e e'.symm
 ·intro s hs x hx t ht e
  rcases h5 s hs x hx t ht with h | h
  ·exact absurd e h
  ·exact h
 ·intro s hs j hj
  exact h6 s hs j hj
 ·intro s hs j hj
  obtain ⟨h,h'⟩:=h7 s hs j hj;refine ⟨h,fun t ht Ka hd=>?_⟩
  rcases h' t ht with e | e
  ·exact Ka e
  ·rw [<- Bool.not_eq_true,List.contains_iff_mem] at e
   exact e hd
 ·intro i hi h0 hT
  rcases h8 i (List.mem_range.2 hi) with (h | ⟨t,ht,e⟩) | h | ⟨j,hj,h⟩
  ·rw [h0] at h;cases h
  ·exact absurd e (hT t ht)
  ·exact .inl h
  ·refine .inr ⟨j,List.mem_range.1 hj,h.1.1,fun t ht e=>?_,h.2⟩
   have:=h.1.2;rw [<- Bool.not_eq_true,List.any_eq_true] at this;exact this ⟨t,ht,by rw [beq_iff_eq];exact e⟩
theorem pN {L:Array Bool} {i:Nat} (h:i<L.size) (a b:Bool):L.getD i a=L.getD i b:=by simp [h]
theorem uk {L:Array Bool} {i j:Nat}:(L.setIfInBounds i true).getD j true=true↔L.getD j true=true \/ j=i:=by
 by_cases e:i=j
 ·subst e
  by_cases h:i<L.size <;> simp [h]
 ·rw [getD_set_ne true e]
  exact ⟨.inl,fun h=>h.resolve_right fun h=>e h.symm⟩
theorem rK {L:Array Bool} {i j:Nat} (h:(L.setIfInBounds i true).getD j true=false):L.getD j true=false:=by
 cases hj:L.getD j true
 ·rfl
 ·have:=uk (i:=i).2 (.inl hj)
  rw [h] at this;cases this
def Lw (own:Nat -> Nat) (w:World) (s:yh):Nat -> Nat:=fun b=>if b<w.heap.size /\ own b ∉ s.eat then own b else s.i
structure OC (l:List Oper) (T:List yh) (L:Array Bool) (own:Nat -> Nat) (w:World):Prop where
 own:∀ b,b<w.heap.size -> L.getD (own b) true=true
 deps:∀ t∈T,L.getD t.i true=true -> ∀ j∈t.deps,L.getD j true=true
theorem JP (ok:iA l T L0) {L:Array Bool} {vs:Nat -> Value} {own:Nat -> Nat} {a:Act} {w:World} (Kd:Region.noSelect l.toArray=true) (I:jA l T p B X w0 a0 L0 L vs own a w) {s:yh} (hs:s∈T) {o:Oper} (ho:l[s.i]?=some o) (hd:∀ j∈s.deps,L.getD j true=true) :
  execOp a.eval o=execOp (vd l vs a0 (s.deps.filter (·<l.length))).eval o:=by
 refine execOp_congr o (fun cs b=>Region.noSelect_spec Kd s.i o cs b (by rw [List.getElem?_toArray];exact ho)) fun x hx=>?_
 cases x with
 | tmp t =>
  have ht:t∈AB l s.i:=by
   unfold AB;rw [ho];exact List.mem_filterMap.2 ⟨.tmp t,by simpa using hx,rfl⟩
  have hTs:∀ j∈T.map (·.i),dc l j=some t -> j∈s.deps:=fun j hj e=>by
   obtain ⟨u,hu,rfl⟩:=List.mem_map.1 hj;exact ok.opers s hs t ht u hu e
  have xY:∀ j∈s.deps,j∈T.map (·.i):=fun j hj=>by
   obtain ⟨⟨u,hu,e⟩,-⟩:=ok.deps s hs j hj;exact List.mem_map.2 ⟨u,hu,e⟩
  have huni:∀ j∈T.map (·.i),∀ k∈T.map (·.i),k≠j -> dc l j=some t -> dc l k≠some t:=fun j hj k hk Ka e=>by
   obtain ⟨u,hu,rfl⟩:=List.mem_map.1 hj;obtain ⟨v,hv,rfl⟩:=List.mem_map.1 hk;exact ok.dst u hu v hv (fun e=>Ka e.symm) t e
  have hlen:∀ j,dc l j=some t -> j<l.length:=fun j e=>by
   rcases Nat.lt_or_ge j l.length with h | h
   ·exact h
   ·unfold dc at e;rw [List.getElem?_eq_none h] at e;cases e
  rw [I.act];by_cases hex:∃ j∈s.deps,dc l j=some t
  ·obtain ⟨j,hj,e⟩:=hex
   have hjT:=xY j hj;have h0:L0.getD j true=false:=by
    obtain ⟨u,hu,rfl⟩:=List.mem_map.1 hjT;exact (Jw _ _ ok.topo _ hjT _ (List.getElem?_eq_getElem (hlen _ e))).2
   rw [aF l vs t j e _ _ (List.mem_filter.2 ⟨hjT,by rw [hd j hj,h0];rfl⟩) fun k hk Ka=>huni j hjT k (List.mem_filter.1 hk).1 Ka e,
    aF l vs t j e _ _ (List.mem_filter.2 ⟨hj,by simpa using hlen j e⟩) fun k hk Ka=>huni j hjT k (xY k (List.mem_filter.1 hk).1) Ka e]
  ·rw [LB l vs t _ _ fun j hj e=>hex ⟨j,hTs j (List.mem_filter.1 hj).1 e,e⟩,LB l vs t _ _ fun j hj e=>hex ⟨j,(List.mem_filter.1 hj).1,e⟩]
 | _=>rfl
theorem TP (ok:iA l T L0) {L:Array Bool} {vs:Nat -> Value} {own:Nat -> Nat} {a:Act} {w:World} (I:jA l T p B X w0 a0 L0 L vs own a w) (J:OC l T L own w) (hB:B <= w0.heap.size)
  (Ef:∀ s∈T,tx p B X w0 s) {s:yh} (hs:s∈T) {o:Oper} (ho:l[s.i]?=some o) (hL:L.getD s.i true=false) (hd:∀ j∈s.deps,L.getD j true=true) {v:Value} {w':World}
  (he:Oi B X w w') (hk:∀ b,b<w.heap.size -> (∀ j∈s.eat,¬yl B X own w j b) -> w'.heap[b]?=w.heap[b]?)
  (hp:p s.i (Jh vs s.i v) (fun b=>(w.heap.size <= b /\ b<w'.heap.size) \/ ∃ j∈s.eat,yl B X own w j b) w') :
  jA l T p B X w0 a0 L0 (L.setIfInBounds s.i true) (Jh vs s.i v) (Lw own w s) (a.put o.dst v) w' /\ OC l T (L.setIfInBounds s.i true) (Lw own w s) w':=by
 have dX:s.i<l.length:=(List.getElem?_eq_some_iff.1 ho).1;have hoi:dc l s.i=o.dst:=by simp [dc,ho]
 have hsT:s.i∈T.map (·.i):=List.mem_map.2 ⟨s,hs,rfl⟩
 have hL0:L0.getD s.i true=false:=(Jw _ _ ok.topo _ hsT _ ho).2;have Ka:∀ b,b<w.heap.size -> own b≠s.i:=fun b hb e=>by
  have:=J.own b hb;rw [e,hL] at this;cases this
 have XH:∀ t∈T,t.i=s.i -> t=s:=fun t ht e=>by
  have hn:=ok.nodup;obtain ⟨i,hi,rfl⟩:=List.getElem_of_mem ht;obtain ⟨j,hj,rfl⟩:=List.getElem_of_mem hs;have:=(List.getElem_inj (h₀:=by simpa using hi) (h₁:=by simpa using hj) hn).1 (by simpa using e)
  subst this
  rfl
 refine ⟨⟨by simp [I.size],fun i h=>uk.2 (.inl (I.old i h)),fun i h=>?_,zM I.eff he,?_,?_⟩,⟨fun b hb=>?_,fun t ht h j hj=>?_⟩⟩
 ·rcases uk.1 h with h | rfl
  ·exact I.new i h
  ·exact .inr ⟨s,hs,rfl⟩
 ·rw [I.act,<- hoi]
  refine (bF l vs s.i v _ _ _ a0 ok.nodup hsT (by rw [hL];rfl) (by rw [uk.2 (.inr rfl),hL0];rfl) (fun j _ Ka=>?_) (fun j hj Ka t e=>?_)).symm
  ·have:(L.setIfInBounds s.i true).getD j true=L.getD j true:=getD_set_ne true fun e=>Ka e.symm
   rw [this]
  ·obtain ⟨u,hu,rfl⟩:=List.mem_map.1 hj
   exact ok.dst s hs u hu (fun e=>Ka e.symm) t e
 ·intro t ht hLt hea
  by_cases e:t.i=s.i
  ·obtain rfl:=XH t ht e
   have e2:yl B X (Lw own w t) w' t.i=(fun b=>(w.heap.size <= b /\ b<w'.heap.size) \/ ∃ j∈t.eat,yl B X own w j b):=by
    funext b
    apply propext
    unfold yl Lw;constructor
    ·rintro ⟨h1,h2,h3⟩
     rcases Nat.lt_or_ge b w.heap.size with h | h
     ·by_cases hm:own b∈t.eat
      ·exact .inr ⟨own b,hm,h,h2,rfl⟩
      ·rw [if_pos ⟨h,hm⟩] at h3
       exact absurd h3 (Ka b h)
     ·exact .inl ⟨h,h1⟩
    ·rintro (⟨h1,h2⟩ | ⟨j,hj,h1,h2,rfl⟩)
     ·exact ⟨h2, .inl (Nat.le_trans hB (Nat.le_trans I.eff.2.2.2.1 h1)),if_neg fun h=>by omega⟩
     ·exact ⟨Nat.lt_of_lt_of_le h1 he.2.2.2.1,h2,if_neg fun h=>h.2 hj⟩
   rw [e2];exact hp
  ·have hLt':L.getD t.i true=true:=(uk.1 hLt).resolve_right e
   have hte:t.i ∉ s.eat:=fun h=>by
    have:=hea s hs h;rw [uk.2 (.inr rfl)] at this;cases this
   have hf:=I.facts t ht hLt' fun k hk h=>rK (hea k hk h)
   have e2:yl B X (Lw own w s) w' t.i=yl B X own w t.i:=by
    funext b
    apply propext
    unfold yl Lw;constructor
    ·rintro ⟨h1,h2,h3⟩
     by_cases hm:b<w.heap.size /\ own b ∉ s.eat
     ·rw [if_pos hm] at h3
      exact ⟨hm.1,h2,h3⟩
     ·rw [if_neg hm] at h3
      exact absurd h3.symm e
    ·rintro ⟨h1,h2,h3⟩
     rw [<- h3] at hte;exact ⟨Nat.lt_of_lt_of_le h1 he.2.2.2.1,h2,by rw [if_pos ⟨h1,hte⟩];exact h3⟩
   rw [e2];refine Ef t ht vs _ _ w w' I.eff he (fun m hm=>IF fun e=>?_) (fun b hb=>hb.1) (fun b hb=>?_) hf
   ·subst e
    rcases List.mem_cons.1 hm with h | h
    ·exact ‹¬t.i=s.i› h.symm
    ·have:=J.deps t ht hLt' _ h
     rw [hL] at this;cases this
   ·refine hk b hb.1 fun j hj hO=>?_
    have:=hO.2.2;rw [hb.2.2] at this;exact hte (this ▸ hj)
 ·unfold Lw
  split
  ·rename_i h
   exact uk.2 (.inl (J.own b h.1))
  ·exact uk.2 (.inr rfl)
 ·rcases uk.1 h with h | h
  ·exact uk.2 (.inl (J.deps t ht h j hj))
  ·obtain rfl:=XH t ht h
   exact uk.2 (.inl (hd j hj))
def Al (T:List yh) (L0:Array Bool):Array Bool:=T.foldl (fun L s=>L.setIfInBounds s.i true) L0
theorem tG:∀ (T:List yh) (L0:Array Bool) (j:Nat),(Al T L0).getD j true=true↔L0.getD j true=true \/ ∃ t∈T,t.i=j
 | [],L0,j=>by simp [Al]
 | s :: T,L0,j=>by
  show (Al T (L0.setIfInBounds s.i true)).getD j true=true↔_
  rw [tG T,uk];constructor
  ·rintro ((h | rfl) | ⟨t,ht,e⟩)
   ·exact .inl h
   ·exact .inr ⟨s,by simp,rfl⟩
   ·exact .inr ⟨t,by simp [ht],e⟩
  ·rintro (h | ⟨t,ht,e⟩)
   ·exact .inl (.inl h)
   ·rcases List.mem_cons.1 ht with rfl | ht
    ·exact .inl (.inr e.symm)
    ·exact .inr ⟨t,ht,e⟩
theorem uG:∀ (T:List yh) (L0:Array Bool),(Al T L0).size=L0.size
 | [],_=>rfl
 | s :: T,L0=>by
  show (Al T (L0.setIfInBounds s.i true)).size=_
  rw [uG T];simp
theorem LP (M:uc R) (Kd:Region.noSelect l.toArray=true) (ok:iA l T L0) (hB:B <= w0.heap.size) (hR:∀ w',Oi B X w0 w' -> R w0 w') (Ef:∀ s∈T,tx p B X w0 s) (mz:∀ s∈T,oA P l p B X w0 a0 s) {fr:Nat}
  (Uo:∀ (w:World) (vs:Nat -> Value) (F:Nat -> Nat -> Prop),Oi B X w0 w -> (∀ s∈T,(∀ k∈T,s.i ∉ k.eat) -> p s.i vs (F s.i) w /\ ∀ b,F s.i b -> b<w.heap.size /\ (B <= b \/ X b)) -> (∀ j k b,j≠k -> F j b -> ¬F k b) ->
   vh P l.toArray Q R fr (Al T L0) (vd l vs a0 ((T.map (·.i)).filter (·<l.length))) w) :
  ∀ (n:Nat) (L:Array Bool) (vs:Nat -> Value) (own:Nat -> Nat) (a:Act) (w:World),(T.filter fun s=>!L.getD s.i true).length=n -> jA l T p B X w0 a0 L0 L vs own a w -> OC l T L own w -> wpAnyH P .any l.toArray Q (R w0) (n+fr) L a w:=by
 intro n
 induction n with
 | zero =>
  intro L vs own a w hn I J;have hup:∀ t∈T,L.getD t.i true=true:=fun t ht=>by
   have:=List.eq_nil_of_length_eq_zero hn;rw [List.filter_eq_nil_iff] at this
   simpa using this t ht
  have hLe:L=Al T L0:=by
   apply Array.ext
   ·rw [uG,I.size,ok.size]
   ·intro i h1 h2
    have e1:L.getD i true=L[i]:=by simp [h1]
    have e2:(Al T L0).getD i true=(Al T L0)[i]:=by simp [h2]
    rw [<- e1,<- e2,Bool.eq_iff_iff,tG];constructor
    ·exact I.new i
    ·rintro (h | ⟨t,ht,rfl⟩)
     ·exact I.old i h
     ·exact hup t ht
  have hact:a=vd l vs a0 ((T.map (·.i)).filter (·<l.length)):=by
   rw [I.act]
   congr 1
   refine List.filter_congr fun j hj=>?_
   obtain ⟨t,ht,rfl⟩:=List.mem_map.1 hj;rw [hup t ht,Bool.true_and];rcases Nat.lt_or_ge t.i l.length with h | h
   ·rw [(Jw _ _ ok.topo _ hj _ (List.getElem?_eq_getElem h)).2]
    simp [h]
   ·have:L0.getD t.i true=true:=by rw [<- ok.size] at h;simp [Nat.not_lt.2 h]
    rw [this];simp [Nat.not_lt.2 h]
  have hf:=Uo w vs (yl B X own w) I.eff (fun s hs Ka=>⟨I.facts s hs (hup s hs) fun k hk h=>absurd h (Ka k hk),fun b hb=>⟨hb.1,hb.2.1⟩⟩) (fun j k b Ka h1 h2=>Ka (h1.2.2.symm.trans h2.2.2))
  rw [Nat.zero_add,hLe,hact];exact jC (fun w2 h2=>M.trans _ _ _ (hR _ I.eff) h2) _ _ _ _ hf
 | succ n ih =>
  intro L vs own a w hn I J;have hex:∃ s∈T,L.getD s.i true=false:=by
   cases h:T.filter (fun s=>!L.getD s.i true) with
   | nil=>rw [h] at hn;cases hn
   | cons s r =>
    have:s∈T.filter (fun s=>!L.getD s.i true):=by rw [h];simp
    obtain ⟨h1,h2⟩:=List.mem_filter.1 this;exact ⟨s,h1,by simpa using h2⟩
  rw [show n+1+fr=(n+fr)+1 by omega]
  refine ⟨fun h=>?_,fun i hi=>?_⟩
  ·obtain ⟨s,hs,h'⟩:=hex
   obtain ⟨i,-,hi⟩:=jJ I.size I.old ok.size _ _ ok.topo (by simp) ⟨s.i,List.mem_map.2 ⟨s,hs,rfl⟩,h'⟩
   rw [h] at hi;cases hi
  ·obtain ⟨hLi,o,ho,Te⟩:=mem_ready.1 hi
   rw [List.getElem?_toArray] at ho;have VX:i<l.length:=(List.getElem?_eq_some_iff.1 ho).1;have ND:∀ j,zq l i j=true -> L.getD j true=true:=fun j h=>by
    obtain ⟨o',ho',e,he,hb,rfl⟩:=iH h;rw [ho] at ho';obtain rfl:=Option.some.inj ho';have:=Te e he hb;rcases Nat.lt_or_ge e.on L.size with h | h
    ·rw [pN h true false];exact this
    ·simp [Nat.not_lt.2 h]
   have hT:∃ s∈T,s.i=i:=by
    refine Classical.byContradiction fun pn=>?_
    have h0:L0.getD i true=false:=by
     cases h:L0.getD i true
     ·rfl
     ·have:=I.old i h;rw [hLi] at this;cases this
    rcases ok.tail i VX h0 (fun t ht e=>pn ⟨t,ht,e⟩) with h | ⟨j,hj,h1,h2,h3⟩
    ·obtain ⟨s,hs,h'⟩:=hex
     rcases h s hs with h | h
     ·rw [<- I.size] at h
      simp [Nat.not_lt.2 h] at h'
     ·rw [ND _ h] at h';cases h'
    ·have h4:=ND _ h3
     rcases I.new j h4 with h | ⟨t,ht,e⟩
     ·rw [h1] at h;cases h
     ·exact h2 t ht e
   obtain ⟨s,hs,rfl⟩:=hT;have hd:∀ j∈s.deps,L.getD j true=true:=fun j hj=>by
    rcases (ok.deps s hs j hj).2 with h | h
    ·rw [<- I.size] at h;simp [Nat.not_lt.2 h]
    ·exact ND _ h
   have hg:=(Jw _ _ ok.topo s.i (List.mem_map.2 ⟨s,hs,rfl⟩) o ho).1;unfold wpOp;rw [List.getElem?_toArray,ho];simp only [Region.wanted,hg,if_true];refine .inl (qM ?_);rw [JP ok Kd I hs ho hd];refine fH ?_ (mz s hs o ho w vs (yl B X own w) I.eff (fun j hj=>⟨?_,fun b hb=>⟨hb.1,hb.2.1⟩⟩) fun j k b Ka h1 h2=>Ka (h1.2.2.symm.trans h2.2.2))
   ·rintro v w' ⟨he,hk,hp⟩
    obtain ⟨I',J'⟩:=TP ok I J hB Ef hs ho hLi hd he hk hp;refine ⟨hR _ I'.eff,ih _ _ _ _ _ ?_ I' J'⟩;have e1:(T.filter fun t=>!(L.setIfInBounds s.i true).getD t.i true)=(T.filter fun t=>!L.getD t.i true).filter fun t=>t.i != s.i:=by
     rw [List.filter_filter];refine List.filter_congr fun t ht=>?_
     rw [Bool.eq_iff_iff];simp only [Bool.not_eq_true',Bool.and_eq_true,bne_iff_ne,ne_eq];constructor
     ·intro h
      refine ⟨fun e=>?_,rK h⟩
      rw [uk.2 (.inr e)] at h;cases h
     ·rintro ⟨h1,h2⟩
      cases h:(L.setIfInBounds s.i true).getD t.i true
      ·rfl
      ·rcases uk.1 h with h | h
       ·rw [h2] at h;cases h
       ·exact absurd h h1
    rw [e1];have:=dJ (T.filter fun t=>!L.getD t.i true) s.i ((List.Sublist.map _ List.filter_sublist).nodup ok.nodup) ⟨s,List.mem_filter.2 ⟨hs,by rw [hLi];rfl⟩,rfl⟩
    omega
   ·obtain ⟨⟨t,ht,rfl⟩,-⟩:=ok.deps s hs j hj
    refine I.facts t ht (hd _ hj) fun k hk h=>?_
    by_cases e:k.i=s.i
    ·rw [e];exact hLi
    ·exact absurd hj ((ok.eat k hk _ h).2 s hs fun e'=>e e'.symm)
where
 dJ:∀ (T:List yh) (i:Nat),(T.map (·.i)).Nodup -> (∃ s∈T,s.i=i) -> (T.filter fun t=>t.i != i).length+1=T.length
  | [],_,_,⟨_,h,_⟩=>by cases h
  | t :: T,i,hn,⟨s,hs,e⟩=>by
   obtain ⟨h1,h2⟩:=List.nodup_cons.1 hn;by_cases ht:t.i=i
   ·rw [List.filter_cons_of_neg (by simp [ht])]
    have:T.filter (fun t=>t.i != i)=T:=List.filter_eq_self.2 fun u hu=>by
     rw [bne_iff_ne];intro e';exact h1 (List.mem_map.2 ⟨u,hu,e'.trans ht.symm⟩)
    rw [this];rfl
   ·rw [List.filter_cons_of_pos (by simpa using ht)]
    have:=dJ T i h2 (by
     rcases List.mem_cons.1 hs with rfl | hs
     ·exact absurd e ht
     ·exact ⟨s,hs,e⟩)
    simp only [List.length_cons];omega
theorem CT (M:uc R) (Kd:Region.noSelect l.toArray=true) (Ia:zB l T L0=true) (hB:B <= w0.heap.size) (hR:∀ w',Oi B X w0 w' -> R w0 w') (vs0:Nat -> Value) (ph:Nat -> Nat) (Tt:∀ b,b<w0.heap.size -> l.length <= ph b)
  (h0:∀ s∈T,l.length <= s.i -> p s.i vs0 (yl B X ph w0 s.i) w0) (Ef:∀ s∈T,tx p B X w0 s) (mz:∀ s∈T,oA P l p B X w0 a0 s) {fr n:Nat} (hn:(T.filter (fun s=>!L0.getD s.i true)).length+fr=n)
  (Uo:∀ (w:World) (vs:Nat -> Value) (F:Nat -> Nat -> Prop),Oi B X w0 w -> (∀ s∈T,(∀ k∈T,s.i ∉ k.eat) -> p s.i vs (F s.i) w /\ ∀ b,F s.i b -> b<w.heap.size /\ (B <= b \/ X b)) -> (∀ j k b,j≠k -> F j b -> ¬F k b) ->
   vh P l.toArray Q R fr (Al T L0) (vd l vs a0 ((T.map (·.i)).filter (·<l.length))) w):vh P l.toArray Q R n L0 a0 w0:=by
 have ok:=iJ Ia;have aw:∀ j,l.length <= j -> L0.getD j true=true:=fun j h=>by rw [<- ok.size] at h;simp [Nat.not_lt.2 h]
 have hlow:∀ s∈T,L0.getD s.i true=true -> l.length <= s.i:=fun s hs h=>by
  rcases Nat.lt_or_ge s.i l.length with h1 | h1
  ·rw [(Jw _ _ ok.topo _ (List.mem_map.2 ⟨s,hs,rfl⟩) _ (List.getElem?_eq_getElem h1)).2] at h;cases h
  ·exact h1
 subst hn;refine LP M Kd ok hB hR Ef mz Uo _ L0 vs0 ph a0 w0 rfl ⟨ok.size,fun _ h=>h,fun _ h=>.inl h,yM _ _ _,?_,fun s hs h _=>h0 s hs (hlow s hs h)⟩ ⟨fun b hb=>aw _ (Tt b hb),fun t ht h j hj=>?_⟩
 ·have:(T.map (·.i)).filter (fun j=>L0.getD j true&&!L0.getD j true)=[]:=List.filter_eq_nil_iff.2 fun j _=>by cases L0.getD j true <;> simp
  rw [this]
  rfl
 ·rcases (ok.deps t ht j hj).2 with h' | h'
  ·exact aw j h'
  ·obtain ⟨o,ho,-⟩:=iH h'
   have:=hlow t ht h;rw [List.getElem?_eq_none this] at ho;cases ho
end
def S (l:List Nat):ByteArray:=⟨(l.map fun n=>UInt8.ofNat n).toArray⟩
theorem YK (l:List Nat):(S l).size=l.length:=by simp [S,ByteArray.size]
theorem oS {P:Program} {w:World} {src e dst:TypeId} {A:Option Addr} {n c:Nat} {l:List Nat} (hs:P.underlying src=some (.slice e)) (he:P.underlying e=some (.int .u8)) (hd:P.underlying dst=some .string)
  (h:Rd w 1 A n (U8 l)):(convert src dst (.slice A n c)).run P w= .ok (.string (S l)) w:=by
 have hl:l.length=n:=by have:=h.len1;rwa [yI] at this
 rcases Nat.eq_zero_or_pos n with h0 | h0
 ·subst h0
  obtain rfl:l=[]:=List.eq_nil_of_length_eq_zero hl;rcases A with _ | ad
  ·rw [run_convert_bytes_nil w src e hs he _ _ dst hd]
   rfl
  ·rw [run_convert_bytes_string w src dst e _ 0 c hs he hd,run_bytesToString w ad 0 c [] (by simpa using run_loadCells_list (P:=P) w ad [] (fun j v hj=>by simp at hj))]
   rfl
 ·obtain ⟨ad,rfl,hc⟩:=h.2 h0
  have hlc:=run_loadCells_list (P:=P) w ad (U8 l) hc;rw [yI,hl] at hlc;rw [run_convert_bytes_string w src dst e _ n c hs he hd,run_bytesToString w ad n c (l.map fun x:Nat=>(x:Int)) (by rw [hlc];simp [U8,Function.comp_def]),foldl_push_bytes]
  simp [S,ByteArray.empty,ByteArray.emptyWithCapacity,Function.comp_def]
  rfl
end Go.Proofs.YtjipleoamlmkfaaGreat
