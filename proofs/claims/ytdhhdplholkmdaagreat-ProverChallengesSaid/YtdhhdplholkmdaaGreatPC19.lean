/- A part of the proof. No condition. -/
import Derived.Test.YtdhhdplholkmdaaGreatProg
import Derived.Test.YtdhhdplholkmdaaGreatPC17
import Derived.Test.YtdhhdplholkmdaaGreatPC6
import Derived.Test.YtdhhdplholkmdaaGreatPC13
import Derived.Test.YtdhhdplholkmdaaGreatPC10
import Derived.Test.YtdhhdplholkmdaaGreatPC8
import Derived.Test.YtdhhdplholkmdaaGreatPC2

namespace Go.Proofs.YtdhhdplholkmdaaGreat
open Go.RowKit
theorem zj:Tryz.prog.cellsOf 30=8:=by kernel_rfl
theorem Gp:Tryz.prog.cellsOf 27=3:=by kernel_rfl
theorem Jv:Tryz.prog.cellsOf 33=1:=by kernel_rfl
structure zAd (w:World) (p:Nat) (pub vars:Int) (A B:Option Addr) (n c m d:Nat) (rows:List Yb) (ws:List Nat):Prop where
 p:p<18446744073709551616
 rows:RSl 3 XI w [.slice A n c] rows
 ws:RWd w [.slice B m d] ws
theorem xx {w:World} {cs:List Value} (hl:cs.length=8) (h:Fits Tryz.prog w 30 cs):∃ (p:Nat) (pub vars:Int) (A B:Option Addr) (n c m d:Nat) (rows:List Yb) (ws:List Nat) (bl bw qs:Int),cs=(xk p pub vars (.slice A n c) bl bw qs (.slice B m d)).toList∧zAd w p pub vars A B n c m d rows ws:=by
 match cs,hl with
 | [x0,x1,x2,x3,x4,x5,x6,x7],_ =>
  obtain ⟨t,y,ht,h1,h2,h3,h4⟩:=zCc rfl (ZN (i:=0) Tryz.underlying30 rfl rfl jp h)
  have hx:=ZN (i:=1) Tryz.underlying30 rfl rfl Gp h
  obtain ⟨a,ha,-⟩:=Ut Tryz.underlying3 (ZN (i:=0) Tryz.underlying27 rfl rfl XS hx)
  obtain ⟨b,hb,-⟩:=Ut Tryz.underlying3 (ZN (i:=1) Tryz.underlying27 rfl rfl XS hx)
  obtain ⟨e,he,-⟩:=Ut Tryz.underlying3 (ZN (i:=2) Tryz.underlying27 rfl rfl XS hx)
  obtain ⟨ws,hw⟩:=VS Tryz.underlying28 Tryz.underlying22 Yw (ZN (i:=2) Tryz.underlying30 rfl rfl Xk h)
  simp at ht ha hb he hw
  obtain ⟨rfl,rfl,rfl,rfl⟩:=ht
  subst ha hb he
  obtain ⟨A,n,c,rfl⟩:=RSl.slc h4
  have hw2:=hw
  obtain ⟨B,m,d,he,-⟩:=hw
  simp at he
  subst he
  exact ⟨t.p,t.pub,t.vars,A,B,n,c,m,d,t.rows,ws,a,b,e,rfl,h1,h4,hw2⟩
abbrev Fact:=(Nat→Value)→(Nat→Prop)→World→Prop
structure Step where
 i:Nat
 deps:List Nat
 eat:List Nat
def Y8 (l:List Oper) (j:Nat):Option Tmp:=(l[j]?).bind (·.dst)
def YG (l:List Oper) (vs:Nat→Value) (a:Act) (js:List Nat):Act:=js.foldl (fun a j=>a.put (Y8 l j) (vs j)) a
theorem Je (l:List Oper) (vs:Nat→Value) (d:Option Tmp) (v:Value):∀ (js:List Nat) (a:Act),(∀ j∈js,∀ t,d=some t→Y8 l j≠some t)→YG l vs (a.put d v) js=(YG l vs a js).put d v
 | [],_,_=>rfl
 | j :: js,a,h=>by
  show YG l vs ((a.put d v).put (Y8 l j) (vs j)) js=_
  rw [Act.put_comm a v (vs j) (h j (by simp))]
  exact Je l vs d v js _ fun k hk=>h k (by simp [hk])
theorem J2 (l:List Oper) {vs us:Nat→Value}:∀ (js:List Nat) (a:Act),(∀ j∈js,vs j=us j)→YG l vs a js=YG l us a js
 | [],_,_=>rfl
 | j :: js,a,h=>by
  show YG l vs (a.put (Y8 l j) (vs j)) js=YG l us (a.put (Y8 l j) (us j)) js
  rw [h j (by simp)]
  exact J2 l js _ fun k hk=>h k (by simp [hk])
def upd (vs:Nat→Value) (i:Nat) (v:Value):Nat→Value:=fun j=>if j=i then v else vs j
theorem zCq (vs:Nat→Value) (i:Nat) (v:Value):upd vs i v i=v:=if_pos rfl
theorem zC4 {vs:Nat→Value} {i j:Nat} {v:Value} (h:j≠i):upd vs i v j=vs j:=if_neg h
theorem Gm (l:List Oper) (vs:Nat→Value) (i:Nat) (v:Value) (f f':Nat→Bool):∀ (js:List Nat) (a:Act),js.Nodup→i∈js→f i=false→f' i=true→(∀ j∈js,j≠i→f' j=f j) →
  (∀ j∈js,j≠i→∀ t,Y8 l i=some t→Y8 l j≠some t)→YG l (upd vs i v) a (js.filter f')=(YG l vs a (js.filter f)).put (Y8 l i) v
 | [],_,_,h,_,_,_,_=>by cases h
 | j :: js,a,hn,hi,h0,h1,h2,h3=>by
  obtain ⟨hj,hn'⟩:=List.nodup_cons.1 hn
  by_cases e:j=i
  ·subst e
   have hf:js.filter f'=js.filter f:=List.filter_congr fun k hk=>h2 k (by simp [hk]) (by rintro rfl;exact hj hk)
   rw [List.filter_cons_of_pos h1,List.filter_cons_of_neg (by rw [h0];exact Bool.false_ne_true),hf]
   show YG l (upd vs j v) (a.put (Y8 l j) (upd vs j v j)) _=_
   rw [zCq,Je _ _ _ _ _ _ (fun k hk=>h3 k (by simp [(List.mem_filter.1 hk).1]) (by rintro rfl;exact hj (List.mem_filter.1 hk).1))]
   rw [J2 l _ a fun k hk=>zC4 (by rintro rfl;exact hj (List.mem_filter.1 hk).1)]
  ·have hi':i∈js:=by
    rcases List.mem_cons.1 hi with h | h
    ·exact absurd h.symm e
    ·exact h
   have key:=fun a=>Gm l vs i v f f' js a hn' hi' h0 h1 (fun k hk=>h2 k (by simp [hk])) fun k hk=>h3 k (by simp [hk])
   have e2:=h2 j (by simp) e
   cases hfj:f j
   ·rw [List.filter_cons_of_neg (by rw [e2,hfj];exact Bool.false_ne_true),List.filter_cons_of_neg (by rw [hfj];exact Bool.false_ne_true)]
    exact key a
   ·rw [List.filter_cons_of_pos (by rw [e2,hfj]),List.filter_cons_of_pos hfj]
    show YG l (upd vs i v) (a.put (Y8 l j) (upd vs i v j)) _=(YG l vs (a.put (Y8 l j) (vs j)) _).put _ _
    rw [zC4 e]
    exact key _
def Eff (B:Nat) (X:Nat→Prop) (w w':World):Prop:=w'.os=w.os∧w'.tape=w.tape∧w'.output=w.output∧w.heap.size≤w'.heap.size∧∀ b,b<B→¬X b→w'.heap[b]?=w.heap[b]?
def Own (B:Nat) (X:Nat→Prop) (own:Nat→Nat) (w:World) (i:Nat):Nat→Prop:=fun b=>b<w.heap.size∧(B≤b∨X b)∧own b=i
def Does (P:Program) (x:Sem Next) (w:World) (K:Value→World→Prop):Prop :=
 (∃ v w',x.run P w= .ok (.value v) w'∧K v w')∨(∃ w',x.run P w= .ok .skip w'∧K undef w')∨(∃ f vals,x.run P w= .ok (.enter f vals) w∧Calls P f vals w fun e w'=>∃ v,e= .returned v∧K v w')
def edge (l:List Oper) (i j:Nat):Bool:=match l[i]? with | some o=>(o.after.any fun e=>Region.binds .any e&&e.on == j) | none=>false
def zEi (l:List Oper) (i:Nat):List Tmp:=match l[i]? with | some o=>(o.op.operands.toList.filterMap fun | .tmp t=>some t | _=>none) | none=>[]
def zDw (l:List Oper) (L0:Array Bool):List Nat→List Nat→Bool
 | _,[]=>true
 | pre,i :: rest=>(match l[i]? with | some o=>o.guard.isNone&&!L0.getD i true&&o.after.all (fun e=>!Region.binds .any e||L0.getD e.on false||(pre.contains e.on&&decide (e.on<l.length))) | none=>true)&&zDw l L0 (i :: pre) rest
section
variable {P:Program} {l:List Oper} {Q:Exit→Act→World→Prop} {R:World→World→Prop} {T:List Step} {p:Nat→Fact} {B:Nat} {X:Nat→Prop} {w0:World} {a0:Act} {L0:Array Bool}
structure OwnAt (l:List Oper) (T:List Step) (p:Nat→Fact) (B:Nat) (X:Nat→Prop) (w0:World) (a0:Act) (L0 L:Array Bool) (vs:Nat→Value) (own:Nat→Nat) (a:Act) (w:World):Prop where
 size:L.size=l.length
 old:∀ i:Nat,L0.getD i true=true→L.getD i true=true
 new:∀ i:Nat,L.getD i true=true→L0.getD i true=true∨∃ t∈T,t.i=i
 eff:Eff B X w0 w
 act:a=YG l vs a0 ((T.map (·.i)).filter fun j=>L.getD j true&&!L0.getD j true)
 facts:∀ s∈T,L.getD s.i true=true→(∀ k∈T,s.i∈k.eat→L.getD k.i true=false)→p s.i vs (Own B X own w s.i) w
structure OkOwn (l:List Oper) (T:List Step) (L0:Array Bool):Prop where
 size:L0.size=l.length
 nodup:(T.map (·.i)).Nodup
 topo:zDw l L0 [] (T.map (·.i))=true
 dst:∀ s∈T,∀ t∈T,s.i≠t.i→∀ x,Y8 l s.i=some x→Y8 l t.i≠some x
 opers:∀ s∈T,∀ x∈zEi l s.i,∀ t∈T,Y8 l t.i=some x→t.i∈s.deps
 deps:∀ s∈T,∀ j∈s.deps,(∃ t∈T,t.i=j)∧(l.length≤j∨edge l s.i j=true)
 eat:∀ s∈T,∀ j∈s.eat,j∈s.deps∧∀ t∈T,t.i≠s.i→j ∉ t.deps
 tail:∀ i,i<l.length→L0.getD i true=false→(∀ t∈T,t.i≠i)→(∀ t∈T,l.length≤t.i∨edge l i t.i=true)∨∃ j,j<l.length∧L0.getD j true=false∧(∀ t∈T,t.i≠j)∧edge l i j=true
structure OwnMore (l:List Oper) (T:List Step) (L:Array Bool) (own:Nat→Nat) (w:World):Prop where
 own:∀ b,b<w.heap.size→L.getD (own b) true=true
 deps:∀ t∈T,L.getD t.i true=true→∀ j∈t.deps,L.getD j true=true
end
def From (B:Nat) (w w':World):Prop:=Below B w w'
theorem JW {B:Nat} (w:World) {g i:Nat} (v:Value) (hg:B≤g):From B w (w.setCell ⟨g,i,none⟩ v):=(Below.refl B w).setCell (p:=⟨g,i,none⟩) hg v
section
variable {P:Program} {l:List Oper} {Q:Exit→Act→World→Prop} {R:World→World→Prop} {rest:List Nat} {fuel i:Nat} {o:Oper} {listed:Array Bool} {a:Act} {w:World}
end
def Jq (a:Act) (vs:Nat→Value) (js:List (Option Tmp × Nat)):Act:=js.foldl (fun a j=>a.put j.1 (vs j.2)) a
theorem KU (l:List Oper) (vs:Nat→Value):∀ (js:List Nat) (a:Act),YG l vs a js=Jq a vs (js.map fun j=>(Y8 l j,j))
 | [],_=>rfl
 | _ :: js,_=>KU l vs js _
section
variable {P:Program} {l:List Oper} {Q:Exit→Act→World→Prop} {R:World→World→Prop} {T:List Step} {ps:List (Nat × Fact)} {B:Nat} {w0:World} {a0:Act} {L0:Array Bool}
abbrev NoX:Nat→Prop:=fun _=>False
end
section
variable {p:Nat→Fact} {B:Nat} {X:Nat→Prop} {w0:World} {s:Step}
end
def Vn (l:List Oper) (i j:Nat):Bool:=match l[i]?,l[j]? with
 | some x,some y=>x.apart l.toArray y
 | _,_=>false
def zAs (P:Program) (o:Oper) (t:TypeId) (z:Array Value):Prop:=o.guard=none∧∀ a w,(execOp a o).run P w= .ok (.value (.pointer (some ⟨w.heap.size,0,none⟩))) (w.alloc (.cells z t))
section
variable {P:Program} {l:List Oper} {hs tail:List Nat} {Q:Exit→Act→World→Prop} {N j:Nat} {t:TypeId} {z:Array Value} {rest:List Nat} {i:Nat} {o:Oper} {listed:Array Bool} {a:Act} {w:World}
theorem jG {oj:Oper} (h:Vn l i j=true) (ho:l[i]?=some o) (hoj:l[j]?=some oj):o.apart l.toArray oj=true:=by
 unfold Vn at h
 rw [ho,hoj] at h
 exact h
end
theorem YM {w:World} {base:Nat} {e:TypeId} {size:Nat} {v:Value} {n:Nat} {xs:List Value} {g:Nat} {t:TypeId} {cs:Array Value} (h:w.ownsRow base e size v n xs) (k:Blk w g t cs) (ht:t≠e):∀ q,v.ownBlock=some q→some g=some q→False:=fun q hq hg=>by
 obtain rfl:=Option.some.inj hg
 obtain ⟨h1,h2⟩:=h
 rcases h2 with ⟨rfl,-⟩ | ⟨q,cap,cur,rfl,-,hh,-⟩
 ·cases hq
 ·obtain rfl:q=g:=Option.some.inj hq
  unfold Blk at k
  rw [hh] at k
  cases k
  exact ht rfl
def JA (l:List Oper) (hs bars fs:List Nat):List Nat→Array Bool→Bool
 | [],listed=>(Region.ready .any l.toArray listed).isEmpty
 | i :: rest,listed=>decide (i<l.length)&&(Region.ready .any l.toArray listed).contains i &&
   (if hs.contains i then Region.ready .any l.toArray listed == [i] else Region.free .any l.toArray listed i&&!bars.contains i&&(YK bars listed||fs.contains i||bars.all fun b=>yw l b i))&&JA l hs bars fs rest (listed.setIfInBounds i true)
def wpW (P:Program) (l:List Oper) (hs bars fs:List Nat) (Q:Exit→Act→World→Prop) (R:World→World→Prop) (order:List Nat) (listed:Array Bool) (a:Act) (w:World):Prop :=
 Region.noSelect l.toArray=true→JA l hs bars fs order listed=true→wpB P l.toArray Q bars R order.length listed a w
section
variable {P:Program} {l:List Oper} {hs bars fs:List Nat} {Q:Exit→Act→World→Prop} {R:World→World→Prop} {rest:List Nat} {i:Nat} {o:Oper} {listed:Array Bool} {a:Act} {w:World}
theorem yt {id:Nat} (R:World→World→Prop) (hs bars fs order:List Nat) (hm:P.follows .mixedOrders=true) (hok:(Region.noSelect l.toArray&&order.length == l.length&&JA l hs bars fs order (List.replicate l.length false).toArray)=true)
  (h:wpW P l hs bars fs Q R order (List.replicate l.length false).toArray a w.drew):(Code.region id l.toArray true).wp P Q a w:=by
 simp only [Bool.and_eq_true,beq_iff_eq] at hok
 refine wp_region_any hm (JL (bars:=bars) (S:=R w.drew) _ _ _ _ ?_)
 have h2:=h hok.1.1 hok.2
 have e:Array.replicate l.toArray.size false=(List.replicate l.length false).toArray:=by simp
 rw [hok.1.2] at h2
 rw [e]
 simpa [wpB] using h2
theorem GV (M:Yx R) {order:List Nat} (h:∀ W,Hid (W=w)→R w W→wpW P l hs bars fs Q R order listed a W):wpW P l hs bars fs Q R order listed a w:=h w rfl (M.refl w)
theorem jI (h:Q .normal a w):wpW P l hs bars fs Q R [] listed a w:=fun _ hok=>⟨by simpa [JA] using hok,h⟩
theorem V6 (h:JA l hs bars fs (i :: rest) listed=true):i<l.length∧(Region.ready .any l.toArray listed).contains i=true ∧
  (hs.contains i=true→Region.ready .any l.toArray listed=[i]) ∧
  (hs.contains i=false→Region.free .any l.toArray listed i=true∧i ∉ bars∧(YK bars listed=true∨fs.contains i=true∨∀ b∈bars,yw l b i=true))∧JA l hs bars fs rest (listed.setIfInBounds i true)=true:=by
 unfold JA at h
 simp only [Bool.and_eq_true,decide_eq_true_eq] at h
 obtain ⟨⟨⟨h1,h2⟩,h3⟩,h4⟩:=h
 refine ⟨h1,h2,fun h6=>?_,fun h6=>?_,h4⟩
 ·rw [if_pos h6] at h3
  simpa using h3
 ·rw [if_neg (by rw [h6];exact Bool.noConfusion)] at h3
  simp only [Bool.and_eq_true,Bool.not_eq_true',Bool.or_eq_true,List.all_eq_true] at h3
  refine ⟨h3.1.1,fun hm=>?_,by rcases h3.2 with (h | h) | h;exact .inl h;exact .inr (.inl h);exact .inr (.inr h)⟩
  have:=h3.1.2
  simp [hm] at this
theorem Jm {v:Value} (M:Yx R) (hh:hs.contains i=false) (hf:fs.contains i=false) (ho:l[i]?=some o) (hw:Region.wanted o (yielded l.toArray a.tmps)=true) (hQ:∀ c a w,Q (.panic c) (a.put o.dst v) w→Q (.panic c) a w)
  (hrun:∀ w',(YK bars listed=false→R w w')→(execOp a.eval o).run P w'= .ok (.value v) w') (h:wpW P l hs bars fs Q R rest (listed.setIfInBounds i true) (a.put o.dst v) w):wpW P l hs bars fs Q R (i :: rest) listed a w:=by
 intro hn hok
 obtain ⟨h1,h2,-,h4,h5⟩:=V6 hok
 obtain ⟨f1,f2,f3⟩:=h4 hh
 have hoa:l.toArray[i]?=some o:=by rw [List.getElem?_toArray];exact ho
 cases hp:YK bars listed
 ·refine Xc (T:=R w) hoa (Region.noSelect_spec hn) hQ f2 (.inr ⟨fun _ h=>h,fun b hb ob hob=>JC hob ?_⟩) _ _ _ _ (.inr hp) (Region.free_spec hoa f1) (by simpa using h2) (.inl ⟨hw,fun w' hR=>hrun w' fun _=>hR⟩) (M.refl w) (fun _=>M.refl w) (h hn h5)
  rcases f3 with f3 | f3 | f3
  ·rw [hp] at f3;cases f3
  ·rw [hf] at f3;cases f3
  ·exact f3 b hb
 ·exact Xc (T:=fun _=>True) hoa (Region.noSelect_spec hn) hQ f2 (.inl fun _=>trivial) _ _ _ _ (.inl fun _=>trivial) (Region.free_spec hoa f1) (by simpa using h2) (.inl ⟨hw,fun w' _=>hrun w' fun h=>by rw [hp] at h;cases h⟩) trivial (fun _=>M.refl w) (h hn h5)
theorem JZ {v:Value} (M:Yx R) (hh:hs.contains i=false) (ho:l[i]?=some o) (hw:Region.wanted o (yielded l.toArray a.tmps)=true) (hQ:∀ c a w,Q (.panic c) (a.put o.dst v) w→Q (.panic c) a w)
  (hrun:∀ w',(execOp a.eval o).run P w'= .ok (.value v) w') (h:wpW P l hs bars fs Q R rest (listed.setIfInBounds i true) (a.put o.dst v) w):wpW P l hs bars fs Q R (i :: rest) listed a w:=by
 intro hn hok
 obtain ⟨h1,h2,-,h4,h5⟩:=V6 hok
 obtain ⟨f1,f2,-⟩:=h4 hh
 have hoa:l.toArray[i]?=some o:=by rw [List.getElem?_toArray];exact ho
 exact Xc (T:=fun _=>True) hoa (Region.noSelect_spec hn) hQ f2 (.inl fun _=>trivial) _ _ _ _ (.inl fun _=>trivial) (Region.free_spec hoa f1) (by simpa using h2) (.inl ⟨hw,fun w' _=>hrun w'⟩) trivial (fun _=>M.refl w) (h hn h5)
theorem J9 (M:Yx R) (hh:hs.contains i=false) (ho:l[i]?=some o) (hw:Region.wanted o (yielded l.toArray a.tmps)=false) (hQ:∀ c a w,Q (.panic c) (a.put o.dst undef) w→Q (.panic c) a w)
  (h:wpW P l hs bars fs Q R rest (listed.setIfInBounds i true) (a.put o.dst undef) w):wpW P l hs bars fs Q R (i :: rest) listed a w:=by
 intro hn hok
 obtain ⟨h1,h2,-,h4,h5⟩:=V6 hok
 obtain ⟨f1,f2,f3⟩:=h4 hh
 have hoa:l.toArray[i]?=some o:=by rw [List.getElem?_toArray];exact ho
 exact Xc (T:=fun _=>True) hoa (Region.noSelect_spec hn) hQ f2 (.inl fun _=>trivial) _ _ _ _ (.inl fun _=>trivial) (Region.free_spec hoa f1) (by simpa using h2) (.inr ⟨hw,rfl⟩) trivial (fun _=>M.refl w) (h hn h5)
theorem Jn (M:Yx R) (hh:hs.contains i=true) (ho:l[i]?=some o) (hw:Region.wanted o (yielded l.toArray a.tmps)=true)
  (h:o.wp P a w (fun a' w'=>(YK bars (listed.setIfInBounds i true)=false→R w w')∧wpW P l hs bars fs Q R rest (listed.setIfInBounds i true) a' w') Q):wpW P l hs bars fs Q R (i :: rest) listed a w:=by
 intro hn hok
 obtain ⟨h1,h2,h3,-,h5⟩:=V6 hok
 have hr:=h3 hh
 refine ⟨fun h0=>absurd (hr ▸ h0) (by simp),fun j hj=>?_⟩
 rw [hr,List.mem_singleton] at hj
 subst hj
 unfold wpOp
 have hi:l.toArray[j]?=some o:=by rw [List.getElem?_toArray];exact ho
 simp only [hi,hw,if_true]
 refine .inl (Oper.wp_mono (fun a' w' h'=>⟨h'.1,?_⟩) h)
 have hk:=h'.2 hn h5
 cases hp:YK bars (listed.setIfInBounds j true)
 ·exact JM (fun w2 h2=>M.trans _ _ _ (h'.1 hp) h2) _ _ _ _ hk
 ·exact UT _ _ _ _ hp hk
end
end Go.Proofs.YtdhhdplholkmdaaGreat
namespace Go.Proofs.YtdhhdplholkmdaaGreat
def powR (p x:Nat):Nat→Nat
 | 0=>1
 | k+1=>powR p x k*x%p
end Go.Proofs.YtdhhdplholkmdaaGreat
namespace Go.Proofs.YtdhhdplholkmdaaGreat
open Go.RowKit
structure LenOk (p n:Nat):Prop where
 pos:1≤n
 le:n≤4096
 two:∃ j,n=2^j
 dvd:(p-1)%n=0
end Go.Proofs.YtdhhdplholkmdaaGreat
namespace Go.Proofs.YtdhhdplholkmdaaGreat
theorem zCh {P:Program} {f:FuncId} {fn:Func} {s:ChangeSpec} {c:OpenClaim}
  (k1:(c.wf (OpenSpec.ofChange s))=true)
  (k2:(laidOutB P)=true)
  (k3:(mapsRowed P)=true)
  (k4:(fn.params.all (P.readableRec ·))=true)
  (k5:(namedTie P c.named s.vars)=true)
  (k6:((c.stops == []))=true)
  (k7:((P.stops == []))=true)
  (k8:((c.knobs == []))=true)
  (k9:((P.stopKnobs == []))=true)
  (k10:((c.inPlace == P.inPlace f))=true)
  (k11:((c.unfollowed == P.unfollowed f))=true)
  (k12:((c.recurses == P.recurses f))=true)
  (k13:((c.named == P.varsNamed f))=true)
  (k14:((c.maps == (fn.params.toList++s.plain.varTypes P).any (P.mapsRec ·)))=true)
  (k15:((c.ifaces == (fn.params.toList++s.plain.varTypes P).any (P.ifacesRec ·)))=true)
  (k16:((c.mapsOut == P.mapsAmong fn.resultTypes.toList))=true)
  (k17:((c.loops == (fn.params.toList++s.plain.varTypes P).any (P.loopsFrom ·)))=true)
  (k18:((c.wideKeys == (fn.params.toList++s.plain.varTypes P++fn.resultTypes.toList).any (P.wideKeysFrom ·)))=true)
  (k19:(s.vars.all (P.varReadable ·))=true)
  (k20:(fn.resultTypes.all (fun t=>P.readableRec t&&decide (t<P.types.size)))=true)
  (k21:((c.ifacesOut == fn.resultTypes.toList.any (P.ifacesRec ·)))=true)
  (k22:((c.loopsOut == fn.resultTypes.toList.any (P.loopsFrom ·)))=true)
  (k23:((c.plainKeys == P.plainKeys))=true)
  (k24:(c.shortTexts.isNone)=true)
  (k25:(P.stopsHeard)=true)
  (k26:(P.mayEnter)=true)
  (k27:((c.lifted == P.liftsFinal))=true)
  (k28:((P.make == some c.make))=true)
  (k29:((c.kinds == (if c.domain.isEmpty then [] else fn.params.toList.map fun t=>match P.underlying t with | some (.int k)=>some k | _=>none)))=true)
  (k30:((c.pinned == c.pinnedBy))=true)
  (k31:((c.veiled == (fn.params.toList++s.plain.varTypes P++fn.resultTypes.toList).any (P.veiledRec ·)))=true)
  (k32:(c.veiledFits P fn.params.toList (fn.params.toList++s.plain.varTypes P++fn.resultTypes.toList))=true)
  : joinedFacts P f fn s c=true:=by
 unfold joinedFacts
 simp only [Bool.and_eq_true]
 exact ⟨⟨⟨⟨⟨⟨⟨⟨⟨⟨⟨⟨⟨⟨⟨⟨⟨⟨⟨⟨⟨⟨⟨⟨⟨⟨⟨⟨⟨⟨⟨k1,k2⟩,k3⟩,k4⟩,k5⟩,k6⟩,k7⟩,k8⟩,k9⟩,k10⟩,k11⟩,k12⟩,k13⟩,k14⟩,k15⟩,k16⟩,k17⟩,k18⟩,k19⟩,k20⟩,k21⟩,k22⟩,k23⟩,k24⟩,k25⟩,k26⟩,k27⟩,k28⟩,k29⟩,k30⟩,k31⟩,k32⟩
end Go.Proofs.YtdhhdplholkmdaaGreat
