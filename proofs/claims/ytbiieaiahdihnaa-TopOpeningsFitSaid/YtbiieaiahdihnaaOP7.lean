/- A part of the proof. No condition. -/
import Derived.Test.YtbiieaiahdihnaaProg
import Derived.Test.YtbiieaiahdihnaaOP6

namespace Go.Proofs.Ytbiieaiahdihnaa
open Go.RowKit
theorem YJ {B:Nat} {w0 w1 w2:World} (h1:Below B w0 w1) (h2:Below w1.heap.size w1 w2) (hB:B≤w1.heap.size:=by omega):Below B w0 w2:=h1.trans (h2.mono hB)
theorem U4 {w w':World} {p:Addr} {v:Value} (h:Below w.drew.heap.size w.drew w') (hc:w.cell? p=some v):w'.cell? p=some v:=(Below.cell h (World.block_lt_of_cell? _ _ hc)).trans hc
theorem Xs (w:World) (t1 t2:TypeId) (cs1 cs2:Array Value) :
  Blk ((w.alloc (.cells cs1 t1)).alloc (.cells cs2 t2)) w.heap.size t1 cs1∧Blk ((w.alloc (.cells cs1 t1)).alloc (.cells cs2 t2)) (w.heap.size+1) t2 cs2∧Below w.heap.size w ((w.alloc (.cells cs1 t1)).alloc (.cells cs2 t2))∧((w.alloc (.cells cs1 t1)).alloc (.cells cs2 t2)).heap.size=w.heap.size+2:=by
 refine ⟨(Blk.new w t1 cs1).alloc _,?_,((Below.refl _ w).alloc (Nat.le_refl _) _).alloc (by simp) _,by simp⟩
 have:=Blk.new (w.alloc (.cells cs1 t1)) t2 cs2
 simpa using this
theorem JS (w:World) (t1 t2 t3:TypeId) (cs1 cs2 cs3:Array Value) :
  Blk (((w.alloc (.cells cs1 t1)).alloc (.cells cs2 t2)).alloc (.cells cs3 t3)) w.heap.size t1 cs1∧Blk (((w.alloc (.cells cs1 t1)).alloc (.cells cs2 t2)).alloc (.cells cs3 t3)) (w.heap.size+1) t2 cs2∧Blk (((w.alloc (.cells cs1 t1)).alloc (.cells cs2 t2)).alloc (.cells cs3 t3)) (w.heap.size+1+1) t3 cs3 ∧
   Below w.heap.size w (((w.alloc (.cells cs1 t1)).alloc (.cells cs2 t2)).alloc (.cells cs3 t3))∧(((w.alloc (.cells cs1 t1)).alloc (.cells cs2 t2)).alloc (.cells cs3 t3)).heap.size=w.heap.size+3:=by
 obtain ⟨h1,h2,h3,h4⟩:=Xs w t1 t2 cs1 cs2
 refine ⟨h1.alloc _,h2.alloc _,?_,h3.alloc h3.size _,by simp⟩
 have:=Blk.new ((w.alloc (.cells cs1 t1)).alloc (.cells cs2 t2)) t3 cs3
 rwa [h4] at this
theorem ZG {w:World} {g:Nat} {t:TypeId} {y0 y1 y2:Value} (k:Blk w g t #[y0,y1,y2]) (x0 x1 x2:Value):Blk (((w.setCell ⟨g,0,none⟩ x0).setCell ⟨g,1,none⟩ x1).setCell ⟨g,2,none⟩ x2) g t #[x0,x1,x2]:=by
 have h:=(((k.set_ 0 x0).set_ 1 x1).set_ 2 x2)
 simpa using h
theorem Zr {w:World} {g:Nat} (x0 x1 x2:Value):w.grownBy (((w.setCell ⟨g,0,none⟩ x0).setCell ⟨g,1,none⟩ x1).setCell ⟨g,2,none⟩ x2) (some g):=by
 iterate 3 refine Zj ?_ (.inl rfl) _
 exact Zl w _
theorem Ze {g B:Nat} {a w:World} (h:a.grownBy w (some g)) (hB:B≤a.heap.size) (hg:B≤g):Below B a w:=ZW h B hB fun _ e=>by have:=Option.some.inj e;omega
section
variable {P:Program} {ops:Array Oper} {Q:Exit→Act→World→Prop} {R:World→World→Prop}
def PureRun (P:Program) (R:World→World→Prop) (W:World) (ρ:Operand→Value) (o:Oper) (v:Value):Prop :=
 (∀ w,R W w→(execOp ρ o).run P w= .ok (.value v) w)∨∃ f vals,(∀ w,(execOp ρ o).run P w= .ok (.enter f vals) w)∧∀ w,R W w→Calls P f vals w fun e w'=>e= .returned v∧R w w'
def PureAt (P:Program) (ops:Array Oper) (R:World→World→Prop) (W:World) (o:Oper) (v:Value) (a:Act):Prop :=
 (Region.wanted o (yielded ops a.tmps)=true∧PureRun P R W a.eval o v)∨(Region.wanted o (yielded ops a.tmps)=false∧v=undef)
theorem PureRun.later (M:ZI R) {W W':World} {ρ:Operand→Value} {o:Oper} {v:Value} (h:PureRun P R W ρ o v) (hR:R W W'):PureRun P R W' ρ o v:=by
 rcases h with h | ⟨f,vals,h1,h2⟩
 ·exact .inl fun w hw=>h w (M.trans _ _ _ hR hw)
 ·exact .inr ⟨f,vals,h1,fun w hw=>h2 w (M.trans _ _ _ hR hw)⟩
theorem PureAt.later (M:ZI R) {W W':World} {o:Oper} {v:Value} {a:Act} (h:PureAt P ops R W o v a) (hR:R W W'):PureAt P ops R W' o v a :=
 h.imp (fun h=>⟨h.1,h.2.later M hR⟩) id
theorem PureAt.same {W:World} {o:Oper} {v:Value} {a a':Act} (h:PureAt P ops R W o v a) (he:execOp a'.eval o=execOp a.eval o) (hw:Region.wanted o (yielded ops a'.tmps)=Region.wanted o (yielded ops a.tmps)):PureAt P ops R W o v a':=by
 unfold PureAt PureRun at *
 rw [he,hw]
 exact h
theorem PureAt.op {W w:World} {i:Nat} {o:Oper} {v:Value} {a:Act} {K:Act→World→Prop} (M:ZI R) (hi:ops[i]?=some o) (h:PureAt P ops R W o v a) (hR:R W w) (hK:∀ w',R w w'→K (a.put o.dst v) w'):wpOp P ops Q i K a w:=by
 unfold wpOp
 simp only [hi]
 rcases h with ⟨hw,h | ⟨f,vals,h1,h2⟩⟩ | ⟨hw,rfl⟩
 ·simp only [hw,if_true,Oper.wp,h w hR,Oper.upon]
  exact .inl (hK w (M.refl w))
 ·simp only [hw,if_true,Oper.wp,h1 w,Oper.upon]
  refine .inl (Calls.mono (h2 w hR) ?_)
  rintro e w' ⟨rfl,h3⟩
  exact hK w' h3
 ·simp only [hw,Bool.false_eq_true,if_false]
  exact hK w (M.refl w)
theorem K5 {Pi:Act→Prop} {j:Nat} {oi oj:Oper} {v:Value} (hj:ops[j]?=some oj) (hap:oi.apart ops oj=true)
  (hsi:∀ cs b,oi.op≠.select cs b) (hsj:∀ cs b,oj.op≠.select cs b)
  (hPi:∀ a a',Pi a→execOp a'.eval oi=execOp a.eval oi→Region.wanted oi (yielded ops a'.tmps)=Region.wanted oi (yielded ops a.tmps)→Pi a')
  (hQ:∀ c a w,Q (.panic c) (a.put oi.dst v) w→Q (.panic c) a w) {K:Act→World→Prop} {a:Act} {w:World}
  (hy:Pi a) (h:wpOp P ops Q j K (a.put oi.dst v) w):wpOp P ops Q j (fun a' w'=>Pi a'∧K (a'.put oi.dst v) w') a w:=by
 obtain ⟨h1,h2,h3⟩:=Oper.apart_spec hap
 have keep:∀ u,Pi (a.put oj.dst u):=fun u=>hPi a _ hy (execOp_put oi hsi a oj.dst u h3) (wanted_put oi a oj.dst u h3)
 unfold wpOp at *
 simp only [hj] at *
 rw [wanted_put oj a oi.dst v h1] at h
 split
 ·rename_i hw
  simp only [hw,if_true] at h
  rcases h with h | ⟨hasks,hlets⟩
  case inr=>exact .inr ⟨by unfold Oper.asks at *;rw [execOp_put oj hsj a oi.dst v h1] at hasks;exact hasks,hlets⟩
  refine .inl ?_
  unfold Oper.wp at *
  rw [execOp_put oj hsj a oi.dst v h1] at h
  generalize (execOp a.eval oj).run P w=r at *
  rcases r with ⟨n,w'⟩ | ⟨x,w'⟩
  ·cases n <;> simp only [Oper.upon] at h ⊢
   case value u=>exact ⟨keep u,by rw [←Act.put_comm a v u h2];exact h⟩
   case skip=>exact ⟨keep _,by rw [←Act.put_comm a v undef h2];exact h⟩
   case defer d =>
    refine ⟨hPi _ _ (hPi a { a with defers:=d :: a.defers } hy rfl rfl) (execOp_put oi hsi _ oj.dst _ h3) (wanted_put oi _ oj.dst _ h3),?_⟩
    rw [←Act.put_comm _ v undef h2,←Act.put_defers]
    exact h
   case enter f args =>
    refine Calls.mono h fun e w'' he=>?_
    rcases e with u | c | _
    ·exact ⟨keep u,by rw [←Act.put_comm a v u h2];exact he⟩
    ·exact hQ _ _ _ he
    ·exact he
   case row row args=>exact Rows.mono h fun u w'' he=>⟨keep u,by rw [←Act.put_comm a v u h2];exact he⟩
  ·cases x <;> simp only [Oper.upon] at h ⊢
   case panic u=>exact hQ _ _ _ h
 ·rename_i hw
  simp only [hw] at h
  exact ⟨keep _,by rw [←Act.put_comm a v undef h2];exact h⟩
def May (bars:List Nat) (R:World→World→Prop) (listed:Array Bool) (w w1:World):Prop:=if ZS bars listed=true then w1=w else R w w1
theorem May.refl (M:ZI R) (bars:List Nat) (listed:Array Bool) (w:World):May bars R listed w w:=by
 unfold May
 split
 ·rfl
 ·exact M.refl w
theorem May.of {bars:List Nat} {listed:Array Bool} {w w1:World} (hp:ZS bars listed=false) (h:R w w1):May bars R listed w w1:=by
 unfold May
 rw [if_neg (by rw [hp];exact Bool.noConfusion)]
 exact h
theorem May.out {bars:List Nat} {listed:Array Bool} {w w1:World} (hp:ZS bars listed=false) (h:May bars R listed w w1):R w w1:=by
 unfold May at h
 rwa [if_neg (by rw [hp];exact Bool.noConfusion)] at h
theorem May.eq {bars:List Nat} {listed:Array Bool} {w w1:World} (hp:ZS bars listed=true) (h:May bars R listed w w1):w1=w:=by
 unfold May at h
 rwa [if_pos hp] at h
def wpG (P:Program) (ops:Array Oper) (Q:Exit→Act→World→Prop) (bars:List Nat) (R:World→World→Prop):Nat→Array Bool→Act→World→Prop
 | 0,listed,a,w=>Region.ready .any ops listed=[]∧∀ w1,May bars R listed w w1→Q .normal a w1
 | fuel+1,listed,a,w=>∀ w1,May bars R listed w w1→(Region.ready .any ops listed=[]→Q .normal a w1) ∧
   ∀ i∈Region.ready .any ops listed,wpOp P ops Q i (fun a' w'=>(ZS bars (listed.setIfInBounds i true)=false→R w1 w')∧wpG P ops Q bars R fuel (listed.setIfInBounds i true) a' w') a w1
theorem JA (M:ZI R) {bars:List Nat}:∀ (fuel:Nat) (listed:Array Bool) (a:Act) (w w2:World),ZS bars listed=false→R w w2→wpG P ops Q bars R fuel listed a w→wpG P ops Q bars R fuel listed a w2
 | 0,_,_,_,_,hp,hR,h=>⟨h.1,fun w1 h1=>h.2 w1 (.of hp (M.trans _ _ _ hR (h1.out hp)))⟩
 | _+1,_,_,_,_,hp,hR,h=>fun w1 h1=>h w1 (.of hp (M.trans _ _ _ hR (h1.out hp)))
theorem U6 (M:ZI R) {bars:List Nat}:∀ (fuel:Nat) (listed:Array Bool) (a:Act) (w:World),wpG P ops Q bars R fuel listed a w→wpAny P .any ops Q fuel listed a w
 | 0,_,_,w,h=>⟨h.1,h.2 w (.refl M _ _ w)⟩
 | fuel+1,_,_,w,h=>⟨(h w (.refl M _ _ w)).1,fun i hi=>wpOp_mono (fun a' w' h'=>U6 M fuel _ a' w' h'.2) ((h w (.refl M _ _ w)).2 i hi)⟩
theorem zI (M:ZI R) {bars:List Nat} {i:Nat} {oi:Oper} {v:Value} (hi:ops[i]?=some oi) (hsel:∀ (j:Nat) (o:Oper) cs b,ops[j]?=some o→o.op≠.select cs b)
  (hQ:∀ c a w,Q (.panic c) (a.put oi.dst v) w→Q (.panic c) a w) (hib:i ∉ bars) (hbar:∀ b∈bars,∀ ob,ops[b]?=some ob→∃ e∈ob.after,Region.binds .any e=true∧e.on=i) :
  ∀ (fuel:Nat) (listed:Array Bool) (a:Act) (w:World),ZS bars listed=false →
   (∀ j oj,ops[j]?=some oj→j≠i→listed.getD j true=false→(∀ e∈oj.after,Region.binds .any e=true→e.on≠i)→oi.apart ops oj=true) →
   i∈Region.ready .any ops listed→PureAt P ops R w oi v a→wpG P ops Q bars R fuel (listed.setIfInBounds i true) (a.put oi.dst v) w→wpG P ops Q bars R (fuel+1) listed a w:=by
 intro fuel
 induction fuel with
 | zero =>
  intro listed a w hp _ hr hy H w1 hw1
  have hp':ZS bars (listed.setIfInBounds i true)=false:=by rw [YG hib];exact hp
  have hR1:=hw1.out hp
  refine ⟨fun h=>(by rw [h] at hr;cases hr),fun j hj=>?_⟩
  by_cases hji:j=i
  ·subst hji
   exact hy.op M hi hR1 fun w' h'=>⟨fun _=>h',JA M _ _ _ _ _ hp' (M.trans _ _ _ hR1 h') H⟩
  ·have:=ready_mono hj hji
   rw [H.1] at this
   cases this
 | succ fuel ih =>
  intro listed a w hp hfree hr hy H w1 hw1
  have hp':ZS bars (listed.setIfInBounds i true)=false:=by rw [YG hib];exact hp
  have hR1:=hw1.out hp
  refine ⟨fun h=>(by rw [h] at hr;cases hr),fun j hj=>?_⟩
  by_cases hji:j=i
  ·subst hji
   exact hy.op M hi hR1 fun w' h'=>⟨fun _=>h',JA M _ _ _ _ _ hp' (M.trans _ _ _ hR1 h') H⟩
  ·have h1:=(H w1 (.of hp' hR1)).2 j (ready_mono hj hji)
   obtain ⟨hjun,oj,hoj,hall⟩:=mem_ready.1 hj
   have hnot:∀ e∈oj.after,Region.binds .any e=true→e.on≠i:=fun e he hb heq=>by
    have h1:=hall e he hb
    have h0:=(mem_ready.1 hr).1
    rw [heq] at h1
    rcases Nat.lt_or_ge i listed.size with h' | h'
    ·simp [h'] at h0 h1;rw [h0] at h1;cases h1
    ·simp [Array.getElem?_eq_none h'] at h1
   have hjb:j ∉ bars:=fun hb=>by
    obtain ⟨e,he,hbi,hei⟩:=hbar j hb oj hoj
    exact hnot e he hbi hei
   have hpj:ZS bars (listed.setIfInBounds j true)=false:=by rw [YG hjb];exact hp
   have hpij:ZS bars ((listed.setIfInBounds i true).setIfInBounds j true)=false:=by rw [YG hjb];exact hp'
   have h2:=K5 (Pi:=PureAt P ops R w1 oi v) hoj (hfree j oj hoj hji hjun hnot) (fun cs b=>hsel i oi cs b hi) (fun cs b=>hsel j oj cs b hoj) (fun _ _ h he hw=>h.same he hw) hQ (hy.later M hR1) h1
   have hfree':∀ k ok,ops[k]?=some ok→k≠i→(listed.setIfInBounds j true).getD k true=false →
     (∀ e∈ok.after,Region.binds .any e=true→e.on≠i)→oi.apart ops ok=true:=fun k ok hk hki hun hno=>by
    refine hfree k ok hk hki ?_ hno
    by_cases hjk:j=k
    ·subst hjk;exact hjun
    ·rw [getD_set_ne true hjk] at hun;exact hun
   refine wpOp_mono (fun a' w' h3=>?_) h2
   have hRw:=h3.2.1 hpij
   refine ⟨fun _=>hRw,ih (listed.setIfInBounds j true) a' w' hpj hfree' (ready_mono hr (Ne.symm hji)) (h3.1.later M hRw) ?_⟩
   rw [Array.setIfInBounds_comm _ _ hji]
   exact h3.2.2
theorem Gw {bars:List Nat} {i:Nat} {oi:Oper} {v:Value} (hi:ops[i]?=some oi) (hsel:∀ (j:Nat) (o:Oper) cs b,ops[j]?=some o→o.op≠.select cs b)
  (hQ:∀ c a w,Q (.panic c) (a.put oi.dst v) w→Q (.panic c) a w) :
  ∀ (fuel:Nat) (listed:Array Bool) (a:Act) (w:World),ZS bars listed=true →
   (∀ j oj,ops[j]?=some oj→j≠i→listed.getD j true=false→(∀ e∈oj.after,Region.binds .any e=true→e.on≠i)→oi.apart ops oj=true) →
   i∈Region.ready .any ops listed→YieldsIf P ops (fun _=>True) oi v a→wpG P ops Q bars R fuel (listed.setIfInBounds i true) (a.put oi.dst v) w→wpG P ops Q bars R (fuel+1) listed a w:=by
 intro fuel
 have hno:∀ {listed:Array Bool} {j:Nat} {w w':World},ZS bars listed=true→ZS bars (listed.setIfInBounds j true)=false→R w w':=fun h h'=>by
  rw [Xj h] at h'
  cases h'
 induction fuel with
 | zero =>
  intro listed a w hp _ hr hy H w1 hw1
  obtain rfl:=hw1.eq hp
  refine ⟨fun h=>(by rw [h] at hr;cases hr),fun j hj=>?_⟩
  by_cases hji:j=i
  ·subst hji
   exact hy.wpOp hi trivial ⟨hno hp,H⟩
  ·have:=ready_mono hj hji
   rw [H.1] at this
   cases this
 | succ fuel ih =>
  intro listed a w hp hfree hr hy H w1 hw1
  obtain rfl:=hw1.eq hp
  refine ⟨fun h=>(by rw [h] at hr;cases hr),fun j hj=>?_⟩
  by_cases hji:j=i
  ·subst hji
   exact hy.wpOp hi trivial ⟨hno hp,H⟩
  ·have h1:=(H w1 (by unfold May;rw [if_pos (Xj hp)])).2 j (ready_mono hj hji)
   obtain ⟨hjun,oj,hoj,hall⟩:=mem_ready.1 hj
   have hnot:∀ e∈oj.after,Region.binds .any e=true→e.on≠i:=fun e he hb heq=>by
    have h1:=hall e he hb
    have h0:=(mem_ready.1 hr).1
    rw [heq] at h1
    rcases Nat.lt_or_ge i listed.size with h' | h'
    ·simp [h'] at h0 h1;rw [h0] at h1;cases h1
    ·simp [Array.getElem?_eq_none h'] at h1
   have h2:=wpOp_putIf hoj (hfree j oj hoj hji hjun hnot) (fun cs b=>hsel i oi cs b hi) (fun cs b=>hsel j oj cs b hoj) hQ hy h1
   have hfree':∀ k ok,ops[k]?=some ok→k≠i→(listed.setIfInBounds j true).getD k true=false →
     (∀ e∈ok.after,Region.binds .any e=true→e.on≠i)→oi.apart ops ok=true:=fun k ok hk hki hun hno=>by
    refine hfree k ok hk hki ?_ hno
    by_cases hjk:j=k
    ·subst hjk;exact hjun
    ·rw [getD_set_ne true hjk] at hun;exact hun
   refine wpOp_mono (fun a' w' h3=>⟨hno hp,ih (listed.setIfInBounds j true) a' w' (Xj hp) hfree' (ready_mono hr (Ne.symm hji)) h3.1 ?_⟩) h2
   rw [Array.setIfInBounds_comm _ _ hji]
   exact h3.2.2
end
def XL (P:Program) (l:List Oper) (hs bars:List Nat) (Q:Exit→Act→World→Prop) (R:World→World→Prop) (order:List Nat) (listed:Array Bool) (a:Act) (w:World):Prop :=
 Region.noSelect l.toArray=true→YZ l hs bars order listed=true→wpG P l.toArray Q bars R order.length listed a w
section
variable {P:Program} {l:List Oper} {hs bars:List Nat} {Q:Exit→Act→World→Prop} {R:World→World→Prop} {rest:List Nat} {i:Nat} {o:Oper} {listed:Array Bool} {a:Act} {w:World}
theorem Zp {id:Nat} (R:World→World→Prop) (M:ZI R) (hs bars order:List Nat) (hm:P.follows .mixedOrders=true) (hok:(Region.noSelect l.toArray&&order.length == l.length&&YZ l hs bars order (List.replicate l.length false).toArray)=true)
  (h:XL P l hs bars Q R order (List.replicate l.length false).toArray a w.drew):(Code.region id l.toArray true).wp P Q a w:=by
 simp only [Bool.and_eq_true,beq_iff_eq] at hok
 refine wp_region_any hm (U6 (R:=R) (bars:=bars) M _ _ _ _ ?_)
 have h2:=h hok.1.1 hok.2
 have e:Array.replicate l.toArray.size false=(List.replicate l.length false).toArray:=by simp
 rw [hok.1.2] at h2
 rw [e]
 simpa using h2
theorem Zo (M:ZI R) {order:List Nat} (h:∀ W,R w W→XL P l hs bars Q R order listed a W):XL P l hs bars Q R order listed a w:=h w (M.refl w)
theorem YC (hp:ZS bars listed=false) (h:∀ w1,R w w1→Q .normal a w1):XL P l hs bars Q R [] listed a w:=fun _ hok=>⟨by simpa [YZ] using hok,fun w1 h1=>h w1 (h1.out hp)⟩
theorem Zw (hp:ZS bars listed=true) (h:Q .normal a w):XL P l hs bars Q R [] listed a w:=fun _ hok=>⟨by simpa [YZ] using hok,fun w1 h1=>by rw [h1.eq hp];exact h⟩
theorem Uh {v:Value} (M:ZI R) (hh:hs.contains i=false) (hp:ZS bars listed=false) (ho:l[i]?=some o) (hQ:∀ c a w,Q (.panic c) (a.put o.dst v) w→Q (.panic c) a w)
  (hpu:PureAt P l.toArray R w o v a) (h:XL P l hs bars Q R rest (listed.setIfInBounds i true) (a.put o.dst v) w):XL P l hs bars Q R (i :: rest) listed a w:=by
 intro hn hok
 obtain ⟨h1,h2,-,h4,h5⟩:=Yr hok
 obtain ⟨f1,f2,f3⟩:=h4 hh
 have hoa:l.toArray[i]?=some o:=by rw [List.getElem?_toArray];exact ho
 refine zI M hoa (Region.noSelect_spec hn) hQ f2 (fun b hb ob hob=>Vp hob ?_) _ _ _ _ hp (Region.free_spec hoa f1) (by simpa using h2) hpu (h hn h5)
 rcases f3 with f3 | f3
 ·rw [hp] at f3;cases f3
 ·exact f3 b hb
theorem Zd {v:Value} (M:ZI R) (hh:hs.contains i=false) (hp:ZS bars listed=false) (ho:l[i]?=some o) (hw:Region.wanted o (yielded l.toArray a.tmps)=true) (hQ:∀ c a w,Q (.panic c) (a.put o.dst v) w→Q (.panic c) a w)
  (hrun:∀ w',R w w'→(execOp a.eval o).run P w'= .ok (.value v) w') (h:XL P l hs bars Q R rest (listed.setIfInBounds i true) (a.put o.dst v) w):XL P l hs bars Q R (i :: rest) listed a w :=
 Uh M hh hp ho hQ (.inl ⟨hw, .inl hrun⟩) h
theorem Zf (M:ZI R) (hh:hs.contains i=false) (hp:ZS bars listed=false) (ho:l[i]?=some o) (hw:Region.wanted o (yielded l.toArray a.tmps)=false) (hQ:∀ c a w,Q (.panic c) (a.put o.dst undef) w→Q (.panic c) a w)
  (h:XL P l hs bars Q R rest (listed.setIfInBounds i true) (a.put o.dst undef) w):XL P l hs bars Q R (i :: rest) listed a w :=
 Uh M hh hp ho hQ (.inr ⟨hw,rfl⟩) h
theorem Zk {v:Value} {f:FuncId} {vals:Array Value} (M:ZI R) (hh:hs.contains i=false) (hp:ZS bars listed=false) (ho:l[i]?=some o) (hw:Region.wanted o (yielded l.toArray a.tmps)=true) (hQ:∀ c a w,Q (.panic c) (a.put o.dst v) w→Q (.panic c) a w)
  (hrun:∀ w,(execOp a.eval o).run P w= .ok (.enter f vals) w) (hc:∀ w',R w w'→Calls P f vals w' fun e w''=>e= .returned v∧R w' w'')
  (h:XL P l hs bars Q R rest (listed.setIfInBounds i true) (a.put o.dst v) w):XL P l hs bars Q R (i :: rest) listed a w :=
 Uh M hh hp ho hQ (.inl ⟨hw, .inr ⟨f,vals,hrun,hc⟩⟩) h
theorem Zi {v:Value} (hh:hs.contains i=false) (hp:ZS bars listed=true) (ho:l[i]?=some o) (hw:Region.wanted o (yielded l.toArray a.tmps)=true) (hQ:∀ c a w,Q (.panic c) (a.put o.dst v) w→Q (.panic c) a w)
  (hrun:∀ w',(execOp a.eval o).run P w'= .ok (.value v) w') (h:XL P l hs bars Q R rest (listed.setIfInBounds i true) (a.put o.dst v) w):XL P l hs bars Q R (i :: rest) listed a w:=by
 intro hn hok
 obtain ⟨h1,h2,-,h4,h5⟩:=Yr hok
 have hoa:l.toArray[i]?=some o:=by rw [List.getElem?_toArray];exact ho
 exact Gw hoa (Region.noSelect_spec hn) hQ _ _ _ _ hp (Region.free_spec hoa (h4 hh).1) (by simpa using h2) (.inl ⟨hw,fun w' _=>hrun w'⟩) (h hn h5)
theorem Zt (hh:hs.contains i=true) (hp:ZS bars listed=false) (ho:l[i]?=some o) (hw:Region.wanted o (yielded l.toArray a.tmps)=true)
  (h:∀ w1,R w w1→o.wp P a w1 (fun a' w'=>(ZS bars (listed.setIfInBounds i true)=false→R w1 w')∧XL P l hs bars Q R rest (listed.setIfInBounds i true) a' w') Q):XL P l hs bars Q R (i :: rest) listed a w:=by
 intro hn hok
 obtain ⟨h1,-,h3,-,h5⟩:=Yr hok
 have hr:=h3 hh
 intro w1 hw1
 refine ⟨fun h0=>absurd (hr ▸ h0) (by simp),fun j hj=>?_⟩
 rw [hr,List.mem_singleton] at hj
 subst hj
 unfold wpOp
 have hi:l.toArray[j]?=some o:=by rw [List.getElem?_toArray];exact ho
 simp only [hi,hw,if_true]
 exact .inl (Oper.wp_mono (fun a' w' h'=>⟨h'.1,h'.2 hn h5⟩) (h w1 (hw1.out hp)))
end
end Go.Proofs.Ytbiieaiahdihnaa
