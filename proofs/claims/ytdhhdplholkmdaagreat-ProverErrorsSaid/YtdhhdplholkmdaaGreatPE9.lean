/- A part of the proof. No condition. -/
import Derived.Test.YtdhhdplholkmdaaGreatProg
import Derived.Test.YtdhhdplholkmdaaGreatPE7
import Derived.Shelf.Spec.BitsCarry
import Derived.Test.YtdhhdplholkmdaaGreatPE8
import Derived.BigQuiet
import Derived.Deep.QuietTactic
import Derived.Test.YtdhhdplholkmdaaGreatPE5

namespace Go.Proofs.YtdhhdplholkmdaaGreat
open Go.RowKit
def YC (bars:List Nat) (listed:Array Bool):Bool:=bars.any fun b=>listed.getD b true
theorem Xk {bars:List Nat} {listed:Array Bool} {j:Nat} (h:j ∉ bars):YC bars (listed.setIfInBounds j true)=YC bars listed:=by
 unfold YC
 induction bars with
 | nil=>rfl
 | cons b r ih =>
  simp only [List.mem_cons,not_or] at h
  simp only [List.any_cons]
  rw [getD_set_ne true h.1,ih h.2]
section
variable {P:Program} {ops:Array Oper} {Q:Exit→Act→World→Prop} {bars:List Nat} {S:World→Prop}
end
def UX (l:List Oper) (b i:Nat):Bool:=match l[b]? with | some o=>o.after.any fun e=>Region.binds .any e&&e.on == i | none=>true
def Y7 (l:List Oper) (hs bars:List Nat):List Nat→Array Bool→Bool
 | [],listed=>(Region.ready .any l.toArray listed).isEmpty
 | i :: rest,listed=>decide (i<l.length)&&(Region.ready .any l.toArray listed).contains i &&
   (if hs.contains i then Region.ready .any l.toArray listed == [i] else Region.free .any l.toArray listed i&&!bars.contains i&&(YC bars listed||bars.all fun b=>UX l b i))&&Y7 l hs bars rest (listed.setIfInBounds i true)
section
variable {P:Program} {l:List Oper} {hs bars:List Nat} {Q:Exit→Act→World→Prop} {R:World→World→Prop} {rest:List Nat} {i:Nat} {o:Oper} {listed:Array Bool} {a:Act} {w:World}
theorem VO (h:Y7 l hs bars (i :: rest) listed=true):i<l.length∧(Region.ready .any l.toArray listed).contains i=true ∧
  (hs.contains i=true→Region.ready .any l.toArray listed=[i]) ∧
  (hs.contains i=false→Region.free .any l.toArray listed i=true∧i ∉ bars∧(YC bars listed=true∨∀ b∈bars,UX l b i=true))∧Y7 l hs bars rest (listed.setIfInBounds i true)=true:=by
 unfold Y7 at h
 simp only [Bool.and_eq_true,decide_eq_true_eq] at h
 obtain ⟨⟨⟨h1,h2⟩,h3⟩,h4⟩:=h
 refine ⟨h1,h2,fun h6=>?_,fun h6=>?_,h4⟩
 ·rw [if_pos h6] at h3
  simpa using h3
 ·rw [if_neg (by rw [h6];exact Bool.noConfusion)] at h3
  simp only [Bool.and_eq_true,Bool.not_eq_true',Bool.or_eq_true,List.all_eq_true] at h3
  refine ⟨h3.1.1,fun hm=>?_,h3.2⟩
  have:=h3.1.2
  simp [hm] at this
theorem UC {b:Nat} {ob:Oper} (hb:l.toArray[b]?=some ob) (h:UX l b i=true):∃ e∈ob.after,Region.binds .any e=true∧e.on=i:=by
 unfold UX at h
 rw [List.getElem?_toArray] at hb
 rw [hb] at h
 simp only [Array.any_eq_true] at h
 obtain ⟨k,hk,he⟩:=h
 simp only [Bool.and_eq_true,beq_iff_eq] at he
 exact ⟨ob.after[k],Array.getElem_mem hk,he.1,he.2⟩
end
theorem Xe (w:World) (t1 t2:TypeId) (cs1 cs2:Array Value) :
  Blk ((w.alloc (.cells cs1 t1)).alloc (.cells cs2 t2)) w.heap.size t1 cs1∧Blk ((w.alloc (.cells cs1 t1)).alloc (.cells cs2 t2)) (w.heap.size+1) t2 cs2∧Below w.heap.size w ((w.alloc (.cells cs1 t1)).alloc (.cells cs2 t2))∧((w.alloc (.cells cs1 t1)).alloc (.cells cs2 t2)).heap.size=w.heap.size+2:=by
 refine ⟨(Blk.new w t1 cs1).alloc _,?_,((Below.refl _ w).alloc (Nat.le_refl _) _).alloc (by simp) _,by simp⟩
 have:=Blk.new (w.alloc (.cells cs1 t1)) t2 cs2
 simpa using this
theorem XZ (w:World) (t1 t2 t3:TypeId) (cs1 cs2 cs3:Array Value) :
  Blk (((w.alloc (.cells cs1 t1)).alloc (.cells cs2 t2)).alloc (.cells cs3 t3)) w.heap.size t1 cs1∧Blk (((w.alloc (.cells cs1 t1)).alloc (.cells cs2 t2)).alloc (.cells cs3 t3)) (w.heap.size+1) t2 cs2∧Blk (((w.alloc (.cells cs1 t1)).alloc (.cells cs2 t2)).alloc (.cells cs3 t3)) (w.heap.size+1+1) t3 cs3 ∧
   Below w.heap.size w (((w.alloc (.cells cs1 t1)).alloc (.cells cs2 t2)).alloc (.cells cs3 t3))∧(((w.alloc (.cells cs1 t1)).alloc (.cells cs2 t2)).alloc (.cells cs3 t3)).heap.size=w.heap.size+3:=by
 obtain ⟨h1,h2,h3,h4⟩:=Xe w t1 t2 cs1 cs2
 refine ⟨h1.alloc _,h2.alloc _,?_,h3.alloc h3.size _,by simp⟩
 have:=Blk.new ((w.alloc (.cells cs1 t1)).alloc (.cells cs2 t2)) t3 cs3
 rwa [h4] at this
theorem ZF {g B:Nat} {a w:World} (h:a.grownBy w (some g)) (hB:B≤a.heap.size) (hg:B≤g):Below B a w:=ZK h B hB fun _ e=>by have:=Option.some.inj e;omega
section
variable {P:Program} {ops:Array Oper} {Q:Exit→Act→World→Prop} {R:World→World→Prop}
def PureRun (P:Program) (R:World→World→Prop) (W:World) (ρ:Operand→Value) (o:Oper) (v:Value):Prop :=
 (∀ w,R W w→(execOp ρ o).run P w= .ok (.value v) w)∨∃ f vals,(∀ w,(execOp ρ o).run P w= .ok (.enter f vals) w)∧∀ w,R W w→Calls P f vals w fun e w'=>e= .returned v∧R w w'
def PureAt (P:Program) (ops:Array Oper) (R:World→World→Prop) (W:World) (o:Oper) (v:Value) (a:Act):Prop :=
 (Region.wanted o (yielded ops a.tmps)=true∧PureRun P R W a.eval o v)∨(Region.wanted o (yielded ops a.tmps)=false∧v=undef)
theorem PureRun.later (M:ZW R) {W W':World} {ρ:Operand→Value} {o:Oper} {v:Value} (h:PureRun P R W ρ o v) (hR:R W W'):PureRun P R W' ρ o v:=by
 rcases h with h | ⟨f,vals,h1,h2⟩
 ·exact .inl fun w hw=>h w (M.trans _ _ _ hR hw)
 ·exact .inr ⟨f,vals,h1,fun w hw=>h2 w (M.trans _ _ _ hR hw)⟩
theorem PureAt.later (M:ZW R) {W W':World} {o:Oper} {v:Value} {a:Act} (h:PureAt P ops R W o v a) (hR:R W W'):PureAt P ops R W' o v a :=
 h.imp (fun h=>⟨h.1,h.2.later M hR⟩) id
theorem PureAt.same {W:World} {o:Oper} {v:Value} {a a':Act} (h:PureAt P ops R W o v a) (he:execOp a'.eval o=execOp a.eval o) (hw:Region.wanted o (yielded ops a'.tmps)=Region.wanted o (yielded ops a.tmps)):PureAt P ops R W o v a':=by
 unfold PureAt PureRun at *
 rw [he,hw]
 exact h
theorem PureAt.op {W w:World} {i:Nat} {o:Oper} {v:Value} {a:Act} {K:Act→World→Prop} (M:ZW R) (hi:ops[i]?=some o) (h:PureAt P ops R W o v a) (hR:R W w) (hK:∀ w',R w w'→K (a.put o.dst v) w'):wpOp P ops Q i K a w:=by
 unfold wpOp
 simp only [hi]
 rcases h with ⟨hw,h | ⟨f,vals,h1,h2⟩⟩ | ⟨hw,rfl⟩
 ·simp only [hw,if_true,Oper.wp,h w hR,Oper.upon]
  exact .inl (hK w (M.refl w))
 ·simp only [hw,if_true,Oper.wp,h1 w,Oper.upon]
  refine .inl (Calls.mono (h2 w hR) ?_)
  rintro e w' ⟨rfl,h3⟩
  exact hK w' h3
 ·simp only [hw,Bool.false_eq_true,if_false]
  exact hK w (M.refl w)
theorem Uo {Pi:Act→Prop} {j:Nat} {oi oj:Oper} {v:Value} (hj:ops[j]?=some oj) (hap:oi.apart ops oj=true)
  (hsi:∀ cs b,oi.op≠.select cs b) (hsj:∀ cs b,oj.op≠.select cs b)
  (hPi:∀ a a',Pi a→execOp a'.eval oi=execOp a.eval oi→Region.wanted oi (yielded ops a'.tmps)=Region.wanted oi (yielded ops a.tmps)→Pi a')
  (hQ:∀ c a w,Q (.panic c) (a.put oi.dst v) w→Q (.panic c) a w) {K:Act→World→Prop} {a:Act} {w:World}
  (hy:Pi a) (h:wpOp P ops Q j K (a.put oi.dst v) w):wpOp P ops Q j (fun a' w'=>Pi a'∧K (a'.put oi.dst v) w') a w:=by
 obtain ⟨h1,h2,h3⟩:=Oper.apart_spec hap
 have keep:∀ u,Pi (a.put oj.dst u):=fun u=>hPi a _ hy (execOp_put oi hsi a oj.dst u h3) (wanted_put oi a oj.dst u h3)
 unfold wpOp at *
 simp only [hj] at *
 rw [wanted_put oj a oi.dst v h1] at h
 split
 ·rename_i hw
  simp only [hw,if_true] at h
  rcases h with h | ⟨hasks,hlets⟩
  case inr=>exact .inr ⟨by unfold Oper.asks at *;rw [execOp_put oj hsj a oi.dst v h1] at hasks;exact hasks,hlets⟩
  refine .inl ?_
  unfold Oper.wp at *
  rw [execOp_put oj hsj a oi.dst v h1] at h
  generalize (execOp a.eval oj).run P w=r at *
  rcases r with ⟨n,w'⟩ | ⟨x,w'⟩
  ·cases n <;> simp only [Oper.upon] at h ⊢
   case value u=>exact ⟨keep u,by rw [←Act.put_comm a v u h2];exact h⟩
   case skip=>exact ⟨keep _,by rw [←Act.put_comm a v undef h2];exact h⟩
   case defer d =>
    refine ⟨hPi _ _ (hPi a { a with defers:=d :: a.defers } hy rfl rfl) (execOp_put oi hsi _ oj.dst _ h3) (wanted_put oi _ oj.dst _ h3),?_⟩
    rw [←Act.put_comm _ v undef h2,←Act.put_defers]
    exact h
   case enter f args =>
    refine Calls.mono h fun e w'' he=>?_
    rcases e with u | c | _
    ·exact ⟨keep u,by rw [←Act.put_comm a v u h2];exact he⟩
    ·exact hQ _ _ _ he
    ·exact he
   case row row args=>exact Rows.mono h fun u w'' he=>⟨keep u,by rw [←Act.put_comm a v u h2];exact he⟩
  ·cases x <;> simp only [Oper.upon] at h ⊢
   case panic u=>exact hQ _ _ _ h
 ·rename_i hw
  simp only [hw] at h
  exact ⟨keep _,by rw [←Act.put_comm a v undef h2];exact h⟩
def May (bars:List Nat) (R:World→World→Prop) (listed:Array Bool) (w w1:World):Prop:=if YC bars listed=true then w1=w else R w w1
theorem May.refl (M:ZW R) (bars:List Nat) (listed:Array Bool) (w:World):May bars R listed w w:=by
 unfold May
 split
 ·rfl
 ·exact M.refl w
theorem May.of {bars:List Nat} {listed:Array Bool} {w w1:World} (hp:YC bars listed=false) (h:R w w1):May bars R listed w w1:=by
 unfold May
 rw [if_neg (by rw [hp];exact Bool.noConfusion)]
 exact h
theorem May.out {bars:List Nat} {listed:Array Bool} {w w1:World} (hp:YC bars listed=false) (h:May bars R listed w w1):R w w1:=by
 unfold May at h
 rwa [if_neg (by rw [hp];exact Bool.noConfusion)] at h
theorem May.eq {bars:List Nat} {listed:Array Bool} {w w1:World} (hp:YC bars listed=true) (h:May bars R listed w w1):w1=w:=by
 unfold May at h
 rwa [if_pos hp] at h
def wpG (P:Program) (ops:Array Oper) (Q:Exit→Act→World→Prop) (bars:List Nat) (R:World→World→Prop):Nat→Array Bool→Act→World→Prop
 | 0,listed,a,w=>Region.ready .any ops listed=[]∧∀ w1,May bars R listed w w1→Q .normal a w1
 | fuel+1,listed,a,w=>∀ w1,May bars R listed w w1→(Region.ready .any ops listed=[]→Q .normal a w1) ∧
   ∀ i∈Region.ready .any ops listed,wpOp P ops Q i (fun a' w'=>(YC bars (listed.setIfInBounds i true)=false→R w1 w')∧wpG P ops Q bars R fuel (listed.setIfInBounds i true) a' w') a w1
theorem Vo (M:ZW R) {bars:List Nat}:∀ (fuel:Nat) (listed:Array Bool) (a:Act) (w w2:World),YC bars listed=false→R w w2→wpG P ops Q bars R fuel listed a w→wpG P ops Q bars R fuel listed a w2
 | 0,_,_,_,_,hp,hR,h=>⟨h.1,fun w1 h1=>h.2 w1 (.of hp (M.trans _ _ _ hR (h1.out hp)))⟩
 | _+1,_,_,_,_,hp,hR,h=>fun w1 h1=>h w1 (.of hp (M.trans _ _ _ hR (h1.out hp)))
theorem X8 (M:ZW R) {bars:List Nat}:∀ (fuel:Nat) (listed:Array Bool) (a:Act) (w:World),wpG P ops Q bars R fuel listed a w→wpAny P .any ops Q fuel listed a w
 | 0,_,_,w,h=>⟨h.1,h.2 w (.refl M _ _ w)⟩
 | fuel+1,_,_,w,h=>⟨(h w (.refl M _ _ w)).1,fun i hi=>wpOp_mono (fun a' w' h'=>X8 M fuel _ a' w' h'.2) ((h w (.refl M _ _ w)).2 i hi)⟩
theorem Jf (M:ZW R) {bars:List Nat} {i:Nat} {oi:Oper} {v:Value} (hi:ops[i]?=some oi) (hsel:∀ (j:Nat) (o:Oper) cs b,ops[j]?=some o→o.op≠.select cs b)
  (hQ:∀ c a w,Q (.panic c) (a.put oi.dst v) w→Q (.panic c) a w) (hib:i ∉ bars) (hbar:∀ b∈bars,∀ ob,ops[b]?=some ob→∃ e∈ob.after,Region.binds .any e=true∧e.on=i) :
  ∀ (fuel:Nat) (listed:Array Bool) (a:Act) (w:World),YC bars listed=false →
   (∀ j oj,ops[j]?=some oj→j≠i→listed.getD j true=false→(∀ e∈oj.after,Region.binds .any e=true→e.on≠i)→oi.apart ops oj=true) →
   i∈Region.ready .any ops listed→PureAt P ops R w oi v a→wpG P ops Q bars R fuel (listed.setIfInBounds i true) (a.put oi.dst v) w→wpG P ops Q bars R (fuel+1) listed a w:=by
 intro fuel
 induction fuel with
 | zero =>
  intro listed a w hp _ hr hy H w1 hw1
  have hp':YC bars (listed.setIfInBounds i true)=false:=by rw [Xk hib];exact hp
  have hR1:=hw1.out hp
  refine ⟨fun h=>(by rw [h] at hr;cases hr),fun j hj=>?_⟩
  by_cases hji:j=i
  ·subst hji
   exact hy.op M hi hR1 fun w' h'=>⟨fun _=>h',Vo M _ _ _ _ _ hp' (M.trans _ _ _ hR1 h') H⟩
  ·have:=ready_mono hj hji
   rw [H.1] at this
   cases this
 | succ fuel ih =>
  intro listed a w hp hfree hr hy H w1 hw1
  have hp':YC bars (listed.setIfInBounds i true)=false:=by rw [Xk hib];exact hp
  have hR1:=hw1.out hp
  refine ⟨fun h=>(by rw [h] at hr;cases hr),fun j hj=>?_⟩
  by_cases hji:j=i
  ·subst hji
   exact hy.op M hi hR1 fun w' h'=>⟨fun _=>h',Vo M _ _ _ _ _ hp' (M.trans _ _ _ hR1 h') H⟩
  ·have h1:=(H w1 (.of hp' hR1)).2 j (ready_mono hj hji)
   obtain ⟨hjun,oj,hoj,hall⟩:=mem_ready.1 hj
   have hnot:∀ e∈oj.after,Region.binds .any e=true→e.on≠i:=fun e he hb heq=>by
    have h1:=hall e he hb
    have h0:=(mem_ready.1 hr).1
    rw [heq] at h1
    rcases Nat.lt_or_ge i listed.size with h' | h'
    ·simp [h'] at h0 h1;rw [h0] at h1;cases h1
    ·simp [Array.getElem?_eq_none h'] at h1
   have hjb:j ∉ bars:=fun hb=>by
    obtain ⟨e,he,hbi,hei⟩:=hbar j hb oj hoj
    exact hnot e he hbi hei
   have hpj:YC bars (listed.setIfInBounds j true)=false:=by rw [Xk hjb];exact hp
   have hpij:YC bars ((listed.setIfInBounds i true).setIfInBounds j true)=false:=by rw [Xk hjb];exact hp'
   have h2:=Uo (Pi:=PureAt P ops R w1 oi v) hoj (hfree j oj hoj hji hjun hnot) (fun cs b=>hsel i oi cs b hi) (fun cs b=>hsel j oj cs b hoj) (fun _ _ h he hw=>h.same he hw) hQ (hy.later M hR1) h1
   have hfree':∀ k ok,ops[k]?=some ok→k≠i→(listed.setIfInBounds j true).getD k true=false →
     (∀ e∈ok.after,Region.binds .any e=true→e.on≠i)→oi.apart ops ok=true:=fun k ok hk hki hun hno=>by
    refine hfree k ok hk hki ?_ hno
    by_cases hjk:j=k
    ·subst hjk;exact hjun
    ·rw [getD_set_ne true hjk] at hun;exact hun
   refine wpOp_mono (fun a' w' h3=>?_) h2
   have hRw:=h3.2.1 hpij
   refine ⟨fun _=>hRw,ih (listed.setIfInBounds j true) a' w' hpj hfree' (ready_mono hr (Ne.symm hji)) (h3.1.later M hRw) ?_⟩
   rw [Array.setIfInBounds_comm _ _ hji]
   exact h3.2.2
end
def XI (P:Program) (l:List Oper) (hs bars:List Nat) (Q:Exit→Act→World→Prop) (R:World→World→Prop) (order:List Nat) (listed:Array Bool) (a:Act) (w:World):Prop :=
 Region.noSelect l.toArray=true→Y7 l hs bars order listed=true→wpG P l.toArray Q bars R order.length listed a w
section
variable {P:Program} {l:List Oper} {hs bars:List Nat} {Q:Exit→Act→World→Prop} {R:World→World→Prop} {rest:List Nat} {i:Nat} {o:Oper} {listed:Array Bool} {a:Act} {w:World}
theorem ZO {id:Nat} (R:World→World→Prop) (M:ZW R) (hs bars order:List Nat) (hm:P.follows .mixedOrders=true) (hok:(Region.noSelect l.toArray&&order.length == l.length&&Y7 l hs bars order (List.replicate l.length false).toArray)=true)
  (h:XI P l hs bars Q R order (List.replicate l.length false).toArray a w.drew):(Code.region id l.toArray true).wp P Q a w:=by
 simp only [Bool.and_eq_true,beq_iff_eq] at hok
 refine wp_region_any hm (X8 (R:=R) (bars:=bars) M _ _ _ _ ?_)
 have h2:=h hok.1.1 hok.2
 have e:Array.replicate l.toArray.size false=(List.replicate l.length false).toArray:=by simp
 rw [hok.1.2] at h2
 rw [e]
 simpa using h2
theorem ZN (M:ZW R) {order:List Nat} (h:∀ W,R w W→XI P l hs bars Q R order listed a W):XI P l hs bars Q R order listed a w:=h w (M.refl w)
theorem ZZ (hp:YC bars listed=false) (h:∀ w1,R w w1→Q .normal a w1):XI P l hs bars Q R [] listed a w:=fun _ hok=>⟨by simpa [Y7] using hok,fun w1 h1=>h w1 (h1.out hp)⟩
theorem Xp {v:Value} (M:ZW R) (hh:hs.contains i=false) (hp:YC bars listed=false) (ho:l[i]?=some o) (hQ:∀ c a w,Q (.panic c) (a.put o.dst v) w→Q (.panic c) a w)
  (hpu:PureAt P l.toArray R w o v a) (h:XI P l hs bars Q R rest (listed.setIfInBounds i true) (a.put o.dst v) w):XI P l hs bars Q R (i :: rest) listed a w:=by
 intro hn hok
 obtain ⟨h1,h2,-,h4,h5⟩:=VO hok
 obtain ⟨f1,f2,f3⟩:=h4 hh
 have hoa:l.toArray[i]?=some o:=by rw [List.getElem?_toArray];exact ho
 refine Jf M hoa (Region.noSelect_spec hn) hQ f2 (fun b hb ob hob=>UC hob ?_) _ _ _ _ hp (Region.free_spec hoa f1) (by simpa using h2) hpu (h hn h5)
 rcases f3 with f3 | f3
 ·rw [hp] at f3;cases f3
 ·exact f3 b hb
theorem Zg {v:Value} (M:ZW R) (hh:hs.contains i=false) (hp:YC bars listed=false) (ho:l[i]?=some o) (hw:Region.wanted o (yielded l.toArray a.tmps)=true) (hQ:∀ c a w,Q (.panic c) (a.put o.dst v) w→Q (.panic c) a w)
  (hrun:∀ w',R w w'→(execOp a.eval o).run P w'= .ok (.value v) w') (h:XI P l hs bars Q R rest (listed.setIfInBounds i true) (a.put o.dst v) w):XI P l hs bars Q R (i :: rest) listed a w :=
 Xp M hh hp ho hQ (.inl ⟨hw, .inl hrun⟩) h
theorem Zk (M:ZW R) (hh:hs.contains i=false) (hp:YC bars listed=false) (ho:l[i]?=some o) (hw:Region.wanted o (yielded l.toArray a.tmps)=false) (hQ:∀ c a w,Q (.panic c) (a.put o.dst undef) w→Q (.panic c) a w)
  (h:XI P l hs bars Q R rest (listed.setIfInBounds i true) (a.put o.dst undef) w):XI P l hs bars Q R (i :: rest) listed a w :=
 Xp M hh hp ho hQ (.inr ⟨hw,rfl⟩) h
theorem Zu {v:Value} {f:FuncId} {vals:Array Value} (M:ZW R) (hh:hs.contains i=false) (hp:YC bars listed=false) (ho:l[i]?=some o) (hw:Region.wanted o (yielded l.toArray a.tmps)=true) (hQ:∀ c a w,Q (.panic c) (a.put o.dst v) w→Q (.panic c) a w)
  (hrun:∀ w,(execOp a.eval o).run P w= .ok (.enter f vals) w) (hc:∀ w',R w w'→Calls P f vals w' fun e w''=>e= .returned v∧R w' w'')
  (h:XI P l hs bars Q R rest (listed.setIfInBounds i true) (a.put o.dst v) w):XI P l hs bars Q R (i :: rest) listed a w :=
 Xp M hh hp ho hQ (.inl ⟨hw, .inr ⟨f,vals,hrun,hc⟩⟩) h
end
def ren25:Go.Shelf.Ren:=⟨fun | 25=>295 | n=>n,fun | 22=>22 | n=>n,fun n=>n⟩
theorem KL:Go.Proofs.Lays7.n25 Tryz.prog ren25:={ mixed:=by kernel_rfl,f25:=by kernel_rfl,t22:=by kernel_rfl,a22:=fun _=>by kernel_rfl,z22:=fun _=>by kernel_rfl,v22:=fun _=>by kernel_rfl,i22:=by kernel_rfl }
theorem U5 (x y:Nat) (w:World):(callFunc 295 #[.int .u64 (x:Int), .int .u64 (y:Int), .int .u64 0]).run Tryz.prog w =
  .ok (.value (.tuple #[.int .u64 (((x+y)%18446744073709551616:Nat):Int), .int .u64 (((x+y) / 18446744073709551616:Nat):Int)])) w :=
 Any7.bits_Add64 KL x y 0 (by omega) w
def fv (p:Nat):Value:=.agg #[.int .u64 (p:Int)]
set_option maxRecDepth 100000 in
set_option maxHeartbeats 1000000 in
theorem Y5 (p:Nat) (w:World) (hp:okP p=true) :
  Calls Tryz.prog 224 #[fv p] w fun e w'=>e= .returned (.bool true)∧Below w.heap.size w w':=by
 unfold fv
 rcases Xv hp with rfl | rfl | rfl | rfl | rfl | rfl | rfl <;>
 ·go_enter Tryz.func224,Tryz.ntmps224
  go_wp2_with fail
  go_ret
  exact ⟨rfl,(Below.refl _ _).alloc (Nat.le_refl _) _⟩
set_option maxRecDepth 100000 in
set_option maxHeartbeats 400000 in
theorem Ys (p n:Nat) (w:World) (hp:0<p) :
  Calls Tryz.prog 234 #[fv p, .int .u64 n] w fun e w'=>e= .returned (.int .u64 ((n%p:Nat):Int))∧Below w.heap.size w w':=by
 unfold fv
 have p1:(0:Int)<(p:Int):=by omega
 have e1:(n:Int)%(p:Int)=((n%p:Nat):Int):=rfl
 have e2:(n:Int).tmod (p:Int)=((n%p:Nat):Int):=rfl
 by_cases h:p≤n
 ·have g:(p:Int)≤(n:Int):=by omega
  revert e1 e2
  generalize n%p=r
  intro e1 e2
  go_enter Tryz.func234,Tryz.ntmps234
  go_wp2_with fail
  go_ret
  exact ⟨rfl,(Below.refl _ _).alloc (Nat.le_refl _) _⟩
 ·have g:¬((p:Int)≤(n:Int)):=by omega
  have HE:=Lib.hid (Nat.mod_eq_of_lt (show n<p by omega))
  clear e1 e2
  rw [HE.out]
  go_enter Tryz.func234,Tryz.ntmps234
  go_wp2_with fail
  go_ret
  exact ⟨rfl,(Below.refl _ _).alloc (Nat.le_refl _) _⟩
set_option maxRecDepth 100000 in
set_option maxHeartbeats 400000 in
theorem JQ (p a b:Nat) (w:World) (hp:okP p=true) (ha:a<p) (hb:b<p) :
  Calls Tryz.prog 233 #[fv p, .int .u64 a, .int .u64 b] w fun e w'=>e= .returned (.int .u64 ((a*b%p:Nat):Int))∧Below w.heap.size w w':=by
 obtain ⟨h1,h2⟩:=ZA hp
 unfold fv
 have hhi:a*b / 18446744073709551616<p:=by
  have:a*b≤p*18446744073709551615:=Nat.mul_le_mul (by omega) (by omega)
  rw [Nat.div_lt_iff_lt_mul (by omega)]
  omega
 have hlo:a*b%18446744073709551616<18446744073709551616:=Nat.mod_lt _ (by omega)
 have hXY:=Nat.div_add_mod (a*b) 18446744073709551616
 rw [Nat.mul_comm 18446744073709551616] at hXY
 have HM:=Lib.hid (fun w=>Vp a b w (by omega) (by omega))
 revert hhi hlo hXY HM
 generalize a*b / 18446744073709551616=hi
 generalize a*b%18446744073709551616=lo
 intro hhi hlo hXY HM
 have HD:=Lib.hid (fun w=>Vj hi lo p w hhi hlo h2)
 rw [hXY] at HD
 clear h1 h2 ha hb hhi hlo hXY hp
 revert HD
 generalize a*b / p=q
 generalize a*b%p=r
 intro HD
 go_enter Tryz.func233,Tryz.ntmps233
 go_wp2_with fail
 refine (HM.out _).mono ?_
 rintro e w1 ⟨rfl,rfl⟩
 go_wp2_with fail
 refine (HD.out _).mono ?_
 rintro e w3 ⟨rfl,k,rfl⟩
 go_wp2
 go_ret
 exact ⟨rfl,ZT ((Below.refl _ _).alloc (Nat.le_refl _) _) _⟩
set_option maxRecDepth 100000 in
set_option maxHeartbeats 400000 in
theorem JD (p a b:Nat) (w:World) (hp:okP p=true) (ha:a<p) (hb:b<p) :
  Calls Tryz.prog 268 #[fv p, .int .u64 a, .int .u64 b] w fun e w'=>e= .returned (.int .u64 (((a+b)%p:Nat):Int))∧Below w.heap.size w w':=by
 obtain ⟨h1,h2⟩:=ZA hp
 unfold fv
 have hrun:=U5 a b
 obtain ⟨s,hs⟩:∃ s,s=(a+b)%18446744073709551616:=⟨_,rfl⟩
 obtain ⟨c,hc⟩:∃ c,c=(a+b) / 18446744073709551616:=⟨_,rfl⟩
 rw [←hs,←hc] at hrun
 by_cases z:c=0
 ·have d1:((c:Int) != 0)=false:=by rw [bne_eq_false_iff_eq];omega
  have d1':(c:Int)=0:=by omega
  by_cases hge:p≤s
  ·have d2:(p:Int)≤(s:Int):=by omega
   have e:IntKind.u64.wrap ((s:Int)-(p:Int))=(((a+b)%p:Nat):Int):=by
    rw [Yi s p hge (by omega)]
    congr 1
    have e1:s=a+b:=by omega
    rw [e1,Nat.mod_eq_sub_mod (by omega),Nat.mod_eq_of_lt (by omega)]
   generalize (a+b)%p=r at *
   clear hs hc hp z ha hb h1 h2 d1'
   go_enter Tryz.func268,Tryz.ntmps268
   go_wp2_with fail
   go_ret
   exact ⟨rfl,(Below.refl _ _).alloc (Nat.le_refl _) _⟩
  ·have d2:¬((p:Int)≤(s:Int)):=by omega
   have e:s=(a+b)%p:=by
    have e1:s=a+b:=by omega
    rw [e1,Nat.mod_eq_of_lt (by omega)]
   have HE:=Lib.hid e
   clear hs hc hp z ha hb h1 h2 d1' e
   rw [←HE.out]
   go_enter Tryz.func268,Tryz.ntmps268
   go_wp2_with fail
   go_ret
   exact ⟨rfl,(Below.refl _ _).alloc (Nat.le_refl _) _⟩
 ·have d1:((c:Int) != 0)=true:=by rw [bne_iff_ne];omega
  have e:IntKind.u64.wrap ((s:Int)-(p:Int))=(((a+b)%p:Nat):Int):=by
   have e1:(a+b)%p=a+b-p:=by rw [Nat.mod_eq_sub_mod (by omega),Nat.mod_eq_of_lt (by omega)]
   rw [e1,IntKind.wrap_u64]
   omega
  generalize (a+b)%p=r at *
  clear hs hc hp z ha hb h1 h2
  go_enter Tryz.func268,Tryz.ntmps268
  go_wp2_with fail
  go_ret
  exact ⟨rfl,(Below.refl _ _).alloc (Nat.le_refl _) _⟩
set_option maxRecDepth 100000 in
set_option maxHeartbeats 400000 in
theorem J0 (p a b:Nat) (w:World) (hp:okP p=true) :
  Calls Tryz.prog 225 #[fv p, .int .u64 a, .int .u64 b] w fun e w'=>e= .returned (.int .u64 (((a+b)%p:Nat):Int))∧Below w.heap.size w w':=by
 have hpp:0<p:=by have:=ZA hp;omega
 have HV:=Lib.hid (fun w=>Y5 p w hp)
 have HA:=Lib.hid (fun w=>Ys p a w hpp)
 have HB:=Lib.hid (fun w=>Ys p b w hpp)
 have HS:=Lib.hid (fun w=>JD p (a%p) (b%p) w hp (Nat.mod_lt _ hpp) (Nat.mod_lt _ hpp))
 rw [←Nat.add_mod] at HS
 clear hp hpp
 unfold fv at *
 generalize (a+b)%p=r at *
 generalize a%p=x at *
 generalize b%p=y at *
 have hb0:Below w.heap.size w (w.alloc (.cells #[.int .u64 (p:Int)] 248)):=(Below.refl _ _).alloc (Nat.le_refl _) _
 have kf:=Blk.new w 248 #[.int .u64 (p:Int)]
 go_enter Tryz.func225,Tryz.ntmps225
 go_wp2_with fail
 refine (HV.out _).mono ?_
 rintro e w1 ⟨rfl,hb1⟩
 replace kf:=kf.below hb1 kf.lt
 replace hb0:=Za hb0 hb1
 clear hb1
 have cf:=kf.cell
 have lf:=kf.lt
 go_wp2_with fail
 refine ZO (Z4) (later_moves) [] [] [0,1,2,3,4,5,6,7,8] (by kernel_rfl) (by kernel_rfl) ?_
 refine ZN (later_moves) ?_
 intro Wc hacc
 repeat (first | (refine Zk (later_moves) rfl rfl rfl rfl (fun _ _ _ h=>h) ?_;simp only [Act.put,zLa,zLb,zLc]) | (refine Zg (v:=?_) (later_moves) rfl rfl rfl rfl (fun _ _ _ h=>h) ?_ ?_;rotate_left;(· (intro w' hR;(first | have hcells:=Zc ((later_moves).trans _ _ _ hacc hR) | skip);go_simp;try with_reducible rfl));simp only [Act.put,zLa,zLb,zLc]))
 refine Zu (later_moves) rfl rfl rfl rfl (fun _ _ _ h=>h) (fun _=>by go_simp <;> rfl) (fun w' hR=>HA.out _) ?_
 simp only [Act.put,zLa,zLb,zLc]
 repeat (first | (refine Zk (later_moves) rfl rfl rfl rfl (fun _ _ _ h=>h) ?_;simp only [Act.put,zLa,zLb,zLc]) | (refine Zg (v:=?_) (later_moves) rfl rfl rfl rfl (fun _ _ _ h=>h) ?_ ?_;rotate_left;(· (intro w' hR;(first | have hcells:=Zc ((later_moves).trans _ _ _ hacc hR) | skip);go_simp;try with_reducible rfl));simp only [Act.put,zLa,zLb,zLc]))
 refine Zu (later_moves) rfl rfl rfl rfl (fun _ _ _ h=>h) (fun _=>by go_simp <;> rfl) (fun w' hR=>HB.out _) ?_
 simp only [Act.put,zLa,zLb,zLc]
 repeat (first | (refine Zk (later_moves) rfl rfl rfl rfl (fun _ _ _ h=>h) ?_;simp only [Act.put,zLa,zLb,zLc]) | (refine Zg (v:=?_) (later_moves) rfl rfl rfl rfl (fun _ _ _ h=>h) ?_ ?_;rotate_left;(· (intro w' hR;(first | have hcells:=Zc ((later_moves).trans _ _ _ hacc hR) | skip);go_simp;try with_reducible rfl));simp only [Act.put,zLa,zLb,zLc]))
 refine Zu (later_moves) rfl rfl rfl rfl (fun _ _ _ h=>h) (fun _=>by go_simp <;> rfl) (fun w' hR=>HS.out _) ?_
 simp only [Act.put,zLa,zLb,zLc]
 repeat (first | (refine Zk (later_moves) rfl rfl rfl rfl (fun _ _ _ h=>h) ?_;simp only [Act.put,zLa,zLb,zLc]) | (refine Zg (v:=?_) (later_moves) rfl rfl rfl rfl (fun _ _ _ h=>h) ?_ ?_;rotate_left;(· (intro w' hR;(first | have hcells:=Zc ((later_moves).trans _ _ _ hacc hR) | skip);go_simp;try with_reducible rfl));simp only [Act.put,zLa,zLb,zLc]))
 refine ZZ rfl ?_
 intro wd hRd
 replace hacc:=(later_moves).trans _ _ _ hacc hRd
 clear hRd
 go_wp2
 go_ret
 exact ⟨rfl,Za hb0.drew hacc⟩
theorem Xc {P:Program} {l:List Oper} {hs:List Nat} {Q:Exit→Act→World→Prop} {R:World→World→Prop} {listed:Array Bool} {a:Act} {w:World} (M:ZW R) {order:List Nat} (h:∀ W,Hid (W=w)→R w W→wpO P l hs Q R order listed a W):wpO P l hs Q R order listed a w:=h w rfl (M.refl w)
theorem Y2 {g:Nat} {w w':World} (h:Below w.heap.size w w'):VA g w w':=VQ (ZL w _) h (Nat.le_refl _)
set_option maxRecDepth 100000 in
set_option maxHeartbeats 400000 in
theorem Ub (p a b:Nat) (w:World) (hp:okP p=true) :
  Calls Tryz.prog 174 #[fv p, .int .u64 a, .int .u64 b] w fun e w'=>e= .returned (.int .u64 ((a*b%p:Nat):Int))∧Below w.heap.size w w':=by
 have hpp:0<p:=by have:=ZA hp;omega
 have HV:=Lib.hid (fun w=>Y5 p w hp)
 have HA:=Lib.hid (fun w=>Ys p a w hpp)
 have HB:=Lib.hid (fun w=>Ys p b w hpp)
 have HS:=Lib.hid (fun w=>JQ p (a%p) (b%p) w hp (Nat.mod_lt _ hpp) (Nat.mod_lt _ hpp))
 rw [←Nat.mul_mod] at HS
 clear hp hpp
 generalize a*b%p=r at *
 generalize a%p=x at *
 generalize b%p=y at *
 unfold fv at *
 have hb0:Below w.heap.size w (w.alloc (.cells #[.int .u64 (p:Int)] 248)):=(Below.refl _ _).alloc (Nat.le_refl _) _
 have kf:=Blk.new w 248 #[.int .u64 (p:Int)]
 go_enter Tryz.func174,Tryz.ntmps174
 go_wp2_with fail
 refine (HV.out _).mono ?_
 rintro e' w1 ⟨rfl,hb1⟩
 replace kf:=kf.below hb1 kf.lt
 replace hb0:=Za hb0 hb1
 clear hb1
 have cf:=kf.cell
 have lf:=kf.lt
 go_wp2_with fail
 refine ZO (Z4) (later_moves) [] [] [0,1,2,3,4,5,6,7,8] (by kernel_rfl) (by kernel_rfl) ?_
 refine ZN (later_moves) ?_
 intro Wc hacc
 repeat (first | (refine Zk (later_moves) rfl rfl rfl rfl (fun _ _ _ h=>h) ?_;simp only [Act.put,zLa,zLb,zLc]) | (refine Zg (v:=?_) (later_moves) rfl rfl rfl rfl (fun _ _ _ h=>h) ?_ ?_;rotate_left;(· (intro w' hR;(first | have hcells:=Zc ((later_moves).trans _ _ _ hacc hR) | skip);go_simp;try with_reducible rfl));simp only [Act.put,zLa,zLb,zLc]))
 refine Zu (later_moves) rfl rfl rfl rfl (fun _ _ _ h=>h) (fun _=>by go_simp <;> rfl) (fun w' hR=>HA.out _) ?_
 simp only [Act.put,zLa,zLb,zLc]
 repeat (first | (refine Zk (later_moves) rfl rfl rfl rfl (fun _ _ _ h=>h) ?_;simp only [Act.put,zLa,zLb,zLc]) | (refine Zg (v:=?_) (later_moves) rfl rfl rfl rfl (fun _ _ _ h=>h) ?_ ?_;rotate_left;(· (intro w' hR;(first | have hcells:=Zc ((later_moves).trans _ _ _ hacc hR) | skip);go_simp;try with_reducible rfl));simp only [Act.put,zLa,zLb,zLc]))
 refine Zu (later_moves) rfl rfl rfl rfl (fun _ _ _ h=>h) (fun _=>by go_simp <;> rfl) (fun w' hR=>HB.out _) ?_
 simp only [Act.put,zLa,zLb,zLc]
 repeat (first | (refine Zk (later_moves) rfl rfl rfl rfl (fun _ _ _ h=>h) ?_;simp only [Act.put,zLa,zLb,zLc]) | (refine Zg (v:=?_) (later_moves) rfl rfl rfl rfl (fun _ _ _ h=>h) ?_ ?_;rotate_left;(· (intro w' hR;(first | have hcells:=Zc ((later_moves).trans _ _ _ hacc hR) | skip);go_simp;try with_reducible rfl));simp only [Act.put,zLa,zLb,zLc]))
 refine Zu (later_moves) rfl rfl rfl rfl (fun _ _ _ h=>h) (fun _=>by go_simp <;> rfl) (fun w' hR=>HS.out _) ?_
 simp only [Act.put,zLa,zLb,zLc]
 repeat (first | (refine Zk (later_moves) rfl rfl rfl rfl (fun _ _ _ h=>h) ?_;simp only [Act.put,zLa,zLb,zLc]) | (refine Zg (v:=?_) (later_moves) rfl rfl rfl rfl (fun _ _ _ h=>h) ?_ ?_;rotate_left;(· (intro w' hR;(first | have hcells:=Zc ((later_moves).trans _ _ _ hacc hR) | skip);go_simp;try with_reducible rfl));simp only [Act.put,zLa,zLb,zLc]))
 refine ZZ rfl ?_
 intro wd hRd
 replace hacc:=(later_moves).trans _ _ _ hacc hRd
 clear hRd
 go_wp2
 go_ret
 exact ⟨rfl,Za hb0.drew hacc⟩
structure St where
 a:Nat
 b:Nat
 c:Nat
def St.val (s:St):Value:=.agg #[.int .u64 (s.a:Int), .int .u64 (s.b:Int), .int .u64 (s.c:Int)]
def St.cs (s:St):Array Value:=#[.int .u64 (s.a:Int), .int .u64 (s.b:Int), .int .u64 (s.c:Int)]
def St.ok (s:St):Prop:=s.a<18446744073709551616∧s.b<18446744073709551616∧s.c<18446744073709551616
def mulW (k:Nat):Nat:=k*11400714819323198485%18446744073709551616
def consP (p r i:Nat):Nat:=mulW (3*r+i+1)%p
def UO (p:Nat) (s:St):Nat:=((s.a+s.b)%p+s.c)%p
def mixP (p:Nat) (s:St):St:=⟨(s.a+UO p s)%p,(s.b+UO p s)%p,(s.c+UO p s)%p⟩
def sboxP (p r i x:Nat):Nat:=((x+consP p r i)%p)^(Y1 p).2.2%p
def St.at_ (s:St) (i:Nat):Nat:=if i=0 then s.a else if i=1 then s.b else s.c
def subF (f:Nat→Nat→Nat) (s:St):Nat→St
 | 0=>s
 | 1=>⟨f 0 s.a,s.b,s.c⟩
 | 2=>⟨f 0 s.a,f 1 s.b,s.c⟩
 | _=>⟨f 0 s.a,f 1 s.b,f 2 s.c⟩
def Ku (p r:Nat) (s:St):St:=mixP p (subF (sboxP p r) s 3)
def Jy (p:Nat) (s:St):Nat→St
 | 0=>s
 | r+1=>Ku p r (Jy p s r)
def Ks (p:Nat) (s:St):St:=Jy p s 8
def S (l:List Nat):ByteArray:=⟨(l.map fun n=>UInt8.ofNat n).toArray⟩
end Go.Proofs.YtdhhdplholkmdaaGreat
