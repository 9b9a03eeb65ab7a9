/- A part of the proof. No condition. -/
import Derived.Test.YtakjnmojigechaaGreatProg
import Derived.Test.YtakjnmojigechaaGreatJB5
import Derived.Shelf.Spec.BitsCarry
import Derived.Test.YtakjnmojigechaaGreatJB6

namespace Go.Proofs.YtakjnmojigechaaGreat
open Go.RowKit
def Xw (bars:List Nat) (listed:Array Bool):Bool:=bars.any fun b=>listed.getD b true
theorem UD {bars:List Nat} {listed:Array Bool} {j:Nat} (h:j ∉ bars):Xw bars (listed.setIfInBounds j true)=Xw bars listed:=by
 unfold Xw
 induction bars with
 | nil=>rfl
 | cons b r ih =>
  simp only [List.mem_cons,not_or] at h
  simp only [List.any_cons]
  rw [getD_set_ne true h.1,ih h.2]
section
variable {P:Program} {ops:Array Oper} {Q:Exit→Act→World→Prop} {bars:List Nat} {S:World→Prop}
def Kb (P:Program) (ops:Array Oper) (Q:Exit→Act→World→Prop) (bars:List Nat) (S:World→Prop):Nat→Array Bool→Act→World→Prop
 | 0,listed,a,w=>Region.ready .any ops listed=[]∧Q .normal a w
 | fuel+1,listed,a,w =>
  (Region.ready .any ops listed=[]→Q .normal a w) ∧
  ∀ i∈Region.ready .any ops listed,wpOp P ops Q i (fun a' w'=>(Xw bars (listed.setIfInBounds i true)=false→S w')∧Kb P ops Q bars S fuel (listed.setIfInBounds i true) a' w') a w
theorem yL:∀ (fuel:Nat) (listed:Array Bool) (a:Act) (w:World),Kb P ops Q bars S fuel listed a w→wpAny P .any ops Q fuel listed a w
 | 0,_,_,_,h=>h
 | fuel+1,_,_,_,h=>⟨h.1,fun i hi=>wpOp_mono (fun a' w' h'=>yL fuel _ a' w' h'.2) (h.2 i hi)⟩
theorem xa {S':World→Prop} (hS:∀ w,S' w→S w):∀ (fuel:Nat) (listed:Array Bool) (a:Act) (w:World),Kb P ops Q bars S' fuel listed a w→Kb P ops Q bars S fuel listed a w
 | 0,_,_,_,h=>h
 | fuel+1,_,_,_,h=>⟨h.1,fun i hi=>wpOp_mono (fun a' w' h'=>⟨fun hp=>hS _ (h'.1 hp),xa hS fuel _ a' w' h'.2⟩) (h.2 i hi)⟩
theorem JS {listed:Array Bool} {i:Nat} (h:Xw bars listed=true):Xw bars (listed.setIfInBounds i true)=true:=by
 unfold Xw at *
 rw [List.any_eq_true] at *
 obtain ⟨b,hb,h1⟩:=h
 refine ⟨b,hb,?_⟩
 by_cases e:i=b
 ·subst e
  rcases Nat.lt_or_ge i listed.size with h2 | h2
  ·simp [h2]
  ·simp [Nat.not_lt.2 h2]
 ·rw [getD_set_ne true e];exact h1
theorem yb {S':World→Prop}:∀ (fuel:Nat) (listed:Array Bool) (a:Act) (w:World),Xw bars listed=true→Kb P ops Q bars S' fuel listed a w→Kb P ops Q bars S fuel listed a w
 | 0,_,_,_,_,h=>h
 | fuel+1,_,_,_,hp,h=>⟨h.1,fun i hi=>wpOp_mono (fun a' w' h'=>⟨fun hp'=>(by rw [JS hp] at hp';cases hp'),yb fuel _ a' w' (JS hp) h'.2⟩) (h.2 i hi)⟩
theorem Kc {T:World→Prop} {i:Nat} {oi:Oper} {v:Value} (hi:ops[i]?=some oi) (hsel:∀ (j:Nat) (o:Oper) cs b,ops[j]?=some o→o.op≠.select cs b)
  (hQ:∀ c a w,Q (.panic c) (a.put oi.dst v) w→Q (.panic c) a w) (hib:i ∉ bars)
  (hT:(∀ w,T w)∨((∀ w,S w→T w)∧∀ b∈bars,∀ ob,ops[b]?=some ob→∃ e∈ob.after,Region.binds .any e=true∧e.on=i)) :
  ∀ (fuel:Nat) (listed:Array Bool) (a:Act) (w:World),((∀ w,T w)∨Xw bars listed=false) →
   (∀ j oj,ops[j]?=some oj→j≠i→listed.getD j true=false→(∀ e∈oj.after,Region.binds .any e=true→e.on≠i)→oi.apart ops oj=true) →
   i∈Region.ready .any ops listed→YieldsIf P ops T oi v a→T w→(Xw bars listed=false→S w) →
   Kb P ops Q bars S fuel (listed.setIfInBounds i true) (a.put oi.dst v) w→Kb P ops Q bars S (fuel+1) listed a w:=by
 intro fuel
 induction fuel with
 | zero =>
  intro listed a w hpl _ hr hy hTw hS H
  refine ⟨fun h=>(by rw [h] at hr;cases hr),fun j hj=>?_⟩
  by_cases hji:j=i
  ·subst hji;exact hy.wpOp hi hTw ⟨fun hp=>hS (by rwa [UD hib] at hp),H⟩
  ·have:=ready_mono hj hji
   rw [H.1] at this
   cases this
 | succ fuel ih =>
  intro listed a w hpl hfree hr hy hTw hS H
  refine ⟨fun h=>(by rw [h] at hr;cases hr),fun j hj=>?_⟩
  by_cases hji:j=i
  ·subst hji;exact hy.wpOp hi hTw ⟨fun hp=>hS (by rwa [UD hib] at hp),H⟩
  ·have h1:=H.2 j (ready_mono hj hji)
   obtain ⟨hjun,oj,hoj,hall⟩:=mem_ready.1 hj
   have hnot:∀ e∈oj.after,Region.binds .any e=true→e.on≠i:=fun e he hb heq=>by
    have h1:=hall e he hb
    have h0:=(mem_ready.1 hr).1
    rw [heq] at h1
    rcases Nat.lt_or_ge i listed.size with h' | h'
    ·simp [h'] at h0 h1;rw [h0] at h1;cases h1
    ·simp [Array.getElem?_eq_none h'] at h1
   have h2:=wpOp_putIf hoj (hfree j oj hoj hji hjun hnot) (fun cs b=>hsel i oi cs b hi) (fun cs b=>hsel j oj cs b hoj) hQ hy h1
   have hfree':∀ k ok,ops[k]?=some ok→k≠i→(listed.setIfInBounds j true).getD k true=false →
     (∀ e∈ok.after,Region.binds .any e=true→e.on≠i)→oi.apart ops ok=true:=fun k ok hk hki hun hno=>by
    refine hfree k ok hk hki ?_ hno
    by_cases hjk:j=k
    ·subst hjk;exact hjun
    ·rw [getD_set_ne true hjk] at hun;exact hun
   have hpe:Xw bars ((listed.setIfInBounds i true).setIfInBounds j true)=Xw bars (listed.setIfInBounds j true):=by
    rw [Array.setIfInBounds_comm _ _ (Ne.symm hji),UD hib]
   refine wpOp_mono (fun a' w' h3=>?_) h2
   have hS':Xw bars (listed.setIfInBounds j true)=false→S w':=fun hp=>h3.2.1 (by rw [hpe];exact hp)
   have hboth:((∀ w,T w)∨Xw bars (listed.setIfInBounds j true)=false)∧T w':=by
    rcases hT with hT | ⟨hST,hbar⟩
    ·exact ⟨.inl hT,hT w'⟩
    ·rcases hpl with hpl | hpl
     ·exact ⟨.inl hpl,hpl w'⟩
     ·have hjb:j ∉ bars:=fun hb=>by
       obtain ⟨e,he,hbi,hei⟩:=hbar j hb oj hoj
       exact hnot e he hbi hei
      have hp':Xw bars (listed.setIfInBounds j true)=false:=by rw [UD hjb];exact hpl
      exact ⟨.inr hp',hST _ (hS' hp')⟩
   refine ⟨hS',ih (listed.setIfInBounds j true) a' w' hboth.1 hfree' (ready_mono hr (Ne.symm hji)) h3.1 hboth.2 hS' ?_⟩
   rw [Array.setIfInBounds_comm _ _ hji]
   exact h3.2.2
end
def wpB (P:Program) (ops:Array Oper) (Q:Exit→Act→World→Prop) (bars:List Nat) (R:World→World→Prop) (fuel:Nat) (listed:Array Bool) (a:Act) (w:World):Prop :=
 Kb P ops Q bars (R w) fuel listed a w
def zEu (l:List Oper) (b i:Nat):Bool:=match l[b]? with | some o=>o.after.any fun e=>Region.binds .any e&&e.on == i | none=>true
def Jk (l:List Oper) (hs bars:List Nat):List Nat→Array Bool→Bool
 | [],listed=>(Region.ready .any l.toArray listed).isEmpty
 | i :: rest,listed=>decide (i<l.length)&&(Region.ready .any l.toArray listed).contains i &&
   (if hs.contains i then Region.ready .any l.toArray listed == [i] else Region.free .any l.toArray listed i&&!bars.contains i&&(Xw bars listed||bars.all fun b=>zEu l b i))&&Jk l hs bars rest (listed.setIfInBounds i true)
def wpV (P:Program) (l:List Oper) (hs bars:List Nat) (Q:Exit→Act→World→Prop) (R:World→World→Prop) (order:List Nat) (listed:Array Bool) (a:Act) (w:World):Prop :=
 Region.noSelect l.toArray=true→Jk l hs bars order listed=true→wpB P l.toArray Q bars R order.length listed a w
section
variable {P:Program} {l:List Oper} {hs bars:List Nat} {Q:Exit→Act→World→Prop} {R:World→World→Prop} {rest:List Nat} {i:Nat} {o:Oper} {listed:Array Bool} {a:Act} {w:World}
theorem XL {id:Nat} (R:World→World→Prop) (hs bars order:List Nat) (hm:P.follows .mixedOrders=true) (hok:(Region.noSelect l.toArray&&order.length == l.length&&Jk l hs bars order (List.replicate l.length false).toArray)=true)
  (h:wpV P l hs bars Q R order (List.replicate l.length false).toArray a w.drew):(Code.region id l.toArray true).wp P Q a w:=by
 simp only [Bool.and_eq_true,beq_iff_eq] at hok
 refine wp_region_any hm (yL (bars:=bars) (S:=R w.drew) _ _ _ _ ?_)
 have h2:=h hok.1.1 hok.2
 have e:Array.replicate l.toArray.size false=(List.replicate l.length false).toArray:=by simp
 rw [hok.1.2] at h2
 rw [e]
 simpa [wpB] using h2
theorem Xo (M:YO R) {order:List Nat} (h:∀ W,Hid (W=w)→R w W→wpV P l hs bars Q R order listed a W):wpV P l hs bars Q R order listed a w:=h w rfl (M.refl w)
theorem Vt (h:Q .normal a w):wpV P l hs bars Q R [] listed a w:=fun _ hok=>⟨by simpa [Jk] using hok,h⟩
theorem V6 (h:Jk l hs bars (i :: rest) listed=true):i<l.length∧(Region.ready .any l.toArray listed).contains i=true ∧
  (hs.contains i=true→Region.ready .any l.toArray listed=[i]) ∧
  (hs.contains i=false→Region.free .any l.toArray listed i=true∧i ∉ bars∧(Xw bars listed=true∨∀ b∈bars,zEu l b i=true))∧Jk l hs bars rest (listed.setIfInBounds i true)=true:=by
 unfold Jk at h
 simp only [Bool.and_eq_true,decide_eq_true_eq] at h
 obtain ⟨⟨⟨h1,h2⟩,h3⟩,h4⟩:=h
 refine ⟨h1,h2,fun h6=>?_,fun h6=>?_,h4⟩
 ·rw [if_pos h6] at h3
  simpa using h3
 ·rw [if_neg (by rw [h6];exact Bool.noConfusion)] at h3
  simp only [Bool.and_eq_true,Bool.not_eq_true',Bool.or_eq_true,List.all_eq_true] at h3
  refine ⟨h3.1.1,fun hm=>?_,h3.2⟩
  have:=h3.1.2
  simp [hm] at this
theorem yD {b:Nat} {ob:Oper} (hb:l.toArray[b]?=some ob) (h:zEu l b i=true):∃ e∈ob.after,Region.binds .any e=true∧e.on=i:=by
 unfold zEu at h
 rw [List.getElem?_toArray] at hb
 rw [hb] at h
 simp only [Array.any_eq_true] at h
 obtain ⟨k,hk,he⟩:=h
 simp only [Bool.and_eq_true,beq_iff_eq] at he
 exact ⟨ob.after[k],Array.getElem_mem hk,he.1,he.2⟩
theorem ZE {v:Value} (M:YO R) (hh:hs.contains i=false) (ho:l[i]?=some o) (hw:Region.wanted o (yielded l.toArray a.tmps)=true) (hQ:∀ c a w,Q (.panic c) (a.put o.dst v) w→Q (.panic c) a w)
  (hrun:∀ w',(Xw bars listed=false→R w w')→(execOp a.eval o).run P w'= .ok (.value v) w') (h:wpV P l hs bars Q R rest (listed.setIfInBounds i true) (a.put o.dst v) w):wpV P l hs bars Q R (i :: rest) listed a w:=by
 intro hn hok
 obtain ⟨h1,h2,-,h4,h5⟩:=V6 hok
 obtain ⟨f1,f2,f3⟩:=h4 hh
 have hoa:l.toArray[i]?=some o:=by rw [List.getElem?_toArray];exact ho
 cases hp:Xw bars listed
 ·refine Kc (T:=R w) hoa (Region.noSelect_spec hn) hQ f2 (.inr ⟨fun _ h=>h,fun b hb ob hob=>yD hob ?_⟩) _ _ _ _ (.inr hp) (Region.free_spec hoa f1) (by simpa using h2) (.inl ⟨hw,fun w' hR=>hrun w' fun _=>hR⟩) (M.refl w) (fun _=>M.refl w) (h hn h5)
  rcases f3 with f3 | f3
  ·rw [hp] at f3;cases f3
  ·exact f3 b hb
 ·exact Kc (T:=fun _=>True) hoa (Region.noSelect_spec hn) hQ f2 (.inl fun _=>trivial) _ _ _ _ (.inl fun _=>trivial) (Region.free_spec hoa f1) (by simpa using h2) (.inl ⟨hw,fun w' _=>hrun w' fun h=>by rw [hp] at h;cases h⟩) trivial (fun _=>M.refl w) (h hn h5)
theorem ZM (M:YO R) (hh:hs.contains i=false) (ho:l[i]?=some o) (hw:Region.wanted o (yielded l.toArray a.tmps)=false) (hQ:∀ c a w,Q (.panic c) (a.put o.dst undef) w→Q (.panic c) a w)
  (h:wpV P l hs bars Q R rest (listed.setIfInBounds i true) (a.put o.dst undef) w):wpV P l hs bars Q R (i :: rest) listed a w:=by
 intro hn hok
 obtain ⟨h1,h2,-,h4,h5⟩:=V6 hok
 obtain ⟨f1,f2,f3⟩:=h4 hh
 have hoa:l.toArray[i]?=some o:=by rw [List.getElem?_toArray];exact ho
 exact Kc (T:=fun _=>True) hoa (Region.noSelect_spec hn) hQ f2 (.inl fun _=>trivial) _ _ _ _ (.inl fun _=>trivial) (Region.free_spec hoa f1) (by simpa using h2) (.inr ⟨hw,rfl⟩) trivial (fun _=>M.refl w) (h hn h5)
theorem YQ (M:YO R) (hh:hs.contains i=true) (ho:l[i]?=some o) (hw:Region.wanted o (yielded l.toArray a.tmps)=true)
  (h:o.wp P a w (fun a' w'=>(Xw bars (listed.setIfInBounds i true)=false→R w w')∧wpV P l hs bars Q R rest (listed.setIfInBounds i true) a' w') Q):wpV P l hs bars Q R (i :: rest) listed a w:=by
 intro hn hok
 obtain ⟨h1,h2,h3,-,h5⟩:=V6 hok
 have hr:=h3 hh
 refine ⟨fun h0=>absurd (hr ▸ h0) (by simp),fun j hj=>?_⟩
 rw [hr,List.mem_singleton] at hj
 subst hj
 unfold wpOp
 have hi:l.toArray[j]?=some o:=by rw [List.getElem?_toArray];exact ho
 simp only [hi,hw,if_true]
 refine .inl (Oper.wp_mono (fun a' w' h'=>⟨h'.1,?_⟩) h)
 have hk:=h'.2 hn h5
 cases hp:Xw bars (listed.setIfInBounds j true)
 ·exact xa (fun w2 h2=>M.trans _ _ _ (h'.1 hp) h2) _ _ _ _ hk
 ·exact yb _ _ _ _ hp hk
theorem Yn {f:FuncId} {vals:Array Value} (M:YO R) (hh:hs.contains i=true) (ho:l[i]?=some o) (hw:Region.wanted o (yielded l.toArray a.tmps)=true)
  (hrun:∀ w,(execOp a.eval o).run P w= .ok (.enter f vals) w)
  (h:Calls P f vals w fun e w'=>∃ v,e= .returned v∧(Xw bars (listed.setIfInBounds i true)=false→R w w')∧wpV P l hs bars Q R rest (listed.setIfInBounds i true) (a.put o.dst v) w'):wpV P l hs bars Q R (i :: rest) listed a w:=by
 refine YQ M hh ho hw ?_
 unfold Oper.wp
 rw [hrun w]
 refine Calls.mono h ?_
 rintro e w' ⟨v,rfl,h1,h2⟩
 exact ⟨h1,h2⟩
end
def Kn (g N:Nat) (w w':World):Prop:=w'.os=w.os∧w'.tape=w.tape∧w'.output=w.output∧w.heap.size≤w'.heap.size∧∀ b,b<N→b≠g→w'.heap[b]?=w.heap[b]?
theorem Zj (g N:Nat):YO (Kn g N):=⟨fun _=>⟨rfl,rfl,rfl,Nat.le_refl _,fun _ _ _=>rfl⟩,fun _ _ _ h k=>⟨k.1.trans h.1,k.2.1.trans h.2.1,k.2.2.1.trans h.2.2.1,Nat.le_trans h.2.2.2.1 k.2.2.2.1,fun b h1 h2=>(k.2.2.2.2 b h1 h2).trans (h.2.2.2.2 b h1 h2)⟩⟩
theorem Yh {g N:Nat} {w w':World} (h:Kn g N w.drew w'):∀ b o,b<N→b≠g→w'.cell? ⟨b,o,none⟩=w.cell? ⟨b,o,none⟩:=fun b o hb hne=>by
 have:=h.2.2.2.2 b hb hne
 simp only [World.cell?,this]
 rfl
theorem Yk {g N B:Nat} {w w':World} (h:Below B w w') (hN:N≤B):Kn g N w w':=⟨h.os,h.tape,h.output,h.size,fun b hb _=>h.block b (by omega)⟩
theorem Jq {g N:Nat} {w w':World} (h:w.grownBy w' (some g)) (hN:N≤w.heap.size):Kn g N w w':=⟨h.os,h.tape,h.output,h.size,fun b hb hne=>h.block b (by omega) (fun e=>hne (Option.some.inj e))⟩
theorem U6 {g N:Nat} {w w':World} {row:Option Nat} (h:w.grownBy w' row) (hN:N≤w.heap.size) (hr:∀ k,row=some k→N≤k):Kn g N w w':=⟨h.os,h.tape,h.output,h.size,fun b hb _=>h.block b (by omega) (fun e=>by have:=hr b e.symm;omega)⟩
theorem YM {B:Nat} {w0 w1 w2:World} (h1:Below B w0 w1) (h2:Below w1.heap.size w1 w2) (hB:B≤w1.heap.size:=by omega):Below B w0 w2:=h1.trans (h2.mono hB)
theorem Gh {g:Nat} {w w':World} (h:Below w.heap.size w w'):jm g w w':=ZI (Zv w _) h (Nat.le_refl _)
theorem xi {w w':World} {p:Addr} {v:Value} (h:Below w.drew.heap.size w.drew w') (hc:w.cell? p=some v):w'.cell? p=some v:=(Below.cell h (World.block_lt_of_cell? _ _ hc)).trans hc
theorem YB (w:World) (t1 t2:TypeId) (cs1 cs2:Array Value) :
  Blk ((w.alloc (.cells cs1 t1)).alloc (.cells cs2 t2)) w.heap.size t1 cs1∧Blk ((w.alloc (.cells cs1 t1)).alloc (.cells cs2 t2)) (w.heap.size+1) t2 cs2∧Below w.heap.size w ((w.alloc (.cells cs1 t1)).alloc (.cells cs2 t2))∧((w.alloc (.cells cs1 t1)).alloc (.cells cs2 t2)).heap.size=w.heap.size+2:=by
 refine ⟨(Blk.new w t1 cs1).alloc _,?_,((Below.refl _ w).alloc (Nat.le_refl _) _).alloc (by simp) _,by simp⟩
 have:=Blk.new (w.alloc (.cells cs1 t1)) t2 cs2
 simpa using this
theorem XH (w:World) (t1 t2 t3:TypeId) (cs1 cs2 cs3:Array Value) :
  Blk (((w.alloc (.cells cs1 t1)).alloc (.cells cs2 t2)).alloc (.cells cs3 t3)) w.heap.size t1 cs1∧Blk (((w.alloc (.cells cs1 t1)).alloc (.cells cs2 t2)).alloc (.cells cs3 t3)) (w.heap.size+1) t2 cs2∧Blk (((w.alloc (.cells cs1 t1)).alloc (.cells cs2 t2)).alloc (.cells cs3 t3)) (w.heap.size+1+1) t3 cs3 ∧
   Below w.heap.size w (((w.alloc (.cells cs1 t1)).alloc (.cells cs2 t2)).alloc (.cells cs3 t3))∧(((w.alloc (.cells cs1 t1)).alloc (.cells cs2 t2)).alloc (.cells cs3 t3)).heap.size=w.heap.size+3:=by
 obtain ⟨h1,h2,h3,h4⟩:=YB w t1 t2 cs1 cs2
 refine ⟨h1.alloc _,h2.alloc _,?_,h3.alloc h3.size _,by simp⟩
 have:=Blk.new ((w.alloc (.cells cs1 t1)).alloc (.cells cs2 t2)) t3 cs3
 rwa [h4] at this
theorem Ye {w:World} {g:Nat} {t:TypeId} {y0 y1 y2:Value} (k:Blk w g t #[y0,y1,y2]) (x0 x1 x2:Value):Blk (((w.setCell ⟨g,0,none⟩ x0).setCell ⟨g,1,none⟩ x1).setCell ⟨g,2,none⟩ x2) g t #[x0,x1,x2]:=by
 have h:=(((k.set_ 0 x0).set_ 1 x1).set_ 2 x2)
 simpa using h
theorem ZX {w:World} {g:Nat} (x0 x1 x2:Value):w.grownBy (((w.setCell ⟨g,0,none⟩ x0).setCell ⟨g,1,none⟩ x1).setCell ⟨g,2,none⟩ x2) (some g):=by
 iterate 3 refine ZC ?_ (.inl rfl) _
 exact Zv w _
theorem Zg {g B:Nat} {a w:World} (h:a.grownBy w (some g)) (hB:B≤a.heap.size) (hg:B≤g):Below B a w:=YT h B hB fun _ e=>by have:=Option.some.inj e;omega
section
variable {P:Program} {ops:Array Oper} {Q:Exit→Act→World→Prop} {R:World→World→Prop}
def PureRun (P:Program) (R:World→World→Prop) (W:World) (ρ:Operand→Value) (o:Oper) (v:Value):Prop :=
 (∀ w,R W w→(execOp ρ o).run P w= .ok (.value v) w)∨∃ f vals,(∀ w,(execOp ρ o).run P w= .ok (.enter f vals) w)∧∀ w,R W w→Calls P f vals w fun e w'=>e= .returned v∧R w w'
def PureAt (P:Program) (ops:Array Oper) (R:World→World→Prop) (W:World) (o:Oper) (v:Value) (a:Act):Prop :=
 (Region.wanted o (yielded ops a.tmps)=true∧PureRun P R W a.eval o v)∨(Region.wanted o (yielded ops a.tmps)=false∧v=undef)
theorem PureRun.later (M:YO R) {W W':World} {ρ:Operand→Value} {o:Oper} {v:Value} (h:PureRun P R W ρ o v) (hR:R W W'):PureRun P R W' ρ o v:=by
 rcases h with h | ⟨f,vals,h1,h2⟩
 ·exact .inl fun w hw=>h w (M.trans _ _ _ hR hw)
 ·exact .inr ⟨f,vals,h1,fun w hw=>h2 w (M.trans _ _ _ hR hw)⟩
theorem PureAt.later (M:YO R) {W W':World} {o:Oper} {v:Value} {a:Act} (h:PureAt P ops R W o v a) (hR:R W W'):PureAt P ops R W' o v a :=
 h.imp (fun h=>⟨h.1,h.2.later M hR⟩) id
theorem PureAt.same {W:World} {o:Oper} {v:Value} {a a':Act} (h:PureAt P ops R W o v a) (he:execOp a'.eval o=execOp a.eval o) (hw:Region.wanted o (yielded ops a'.tmps)=Region.wanted o (yielded ops a.tmps)):PureAt P ops R W o v a':=by
 unfold PureAt PureRun at *
 rw [he,hw]
 exact h
theorem PureAt.op {W w:World} {i:Nat} {o:Oper} {v:Value} {a:Act} {K:Act→World→Prop} (M:YO R) (hi:ops[i]?=some o) (h:PureAt P ops R W o v a) (hR:R W w) (hK:∀ w',R w w'→K (a.put o.dst v) w'):wpOp P ops Q i K a w:=by
 unfold wpOp
 simp only [hi]
 rcases h with ⟨hw,h | ⟨f,vals,h1,h2⟩⟩ | ⟨hw,rfl⟩
 ·simp only [hw,if_true,Oper.wp,h w hR,Oper.upon]
  exact .inl (hK w (M.refl w))
 ·simp only [hw,if_true,Oper.wp,h1 w,Oper.upon]
  refine .inl (Calls.mono (h2 w hR) ?_)
  rintro e w' ⟨rfl,h3⟩
  exact hK w' h3
 ·simp only [hw,Bool.false_eq_true,if_false]
  exact hK w (M.refl w)
theorem zDg {Pi:Act→Prop} {j:Nat} {oi oj:Oper} {v:Value} (hj:ops[j]?=some oj) (hap:oi.apart ops oj=true)
  (hsi:∀ cs b,oi.op≠.select cs b) (hsj:∀ cs b,oj.op≠.select cs b)
  (hPi:∀ a a',Pi a→execOp a'.eval oi=execOp a.eval oi→Region.wanted oi (yielded ops a'.tmps)=Region.wanted oi (yielded ops a.tmps)→Pi a')
  (hQ:∀ c a w,Q (.panic c) (a.put oi.dst v) w→Q (.panic c) a w) {K:Act→World→Prop} {a:Act} {w:World}
  (hy:Pi a) (h:wpOp P ops Q j K (a.put oi.dst v) w):wpOp P ops Q j (fun a' w'=>Pi a'∧K (a'.put oi.dst v) w') a w:=by
 obtain ⟨h1,h2,h3⟩:=Oper.apart_spec hap
 have keep:∀ u,Pi (a.put oj.dst u):=fun u=>hPi a _ hy (execOp_put oi hsi a oj.dst u h3) (wanted_put oi a oj.dst u h3)
 unfold wpOp at *
 simp only [hj] at *
 rw [wanted_put oj a oi.dst v h1] at h
 split
 ·rename_i hw
  simp only [hw,if_true] at h
  rcases h with h | ⟨hasks,hlets⟩
  case inr=>exact .inr ⟨by unfold Oper.asks at *;rw [execOp_put oj hsj a oi.dst v h1] at hasks;exact hasks,hlets⟩
  refine .inl ?_
  unfold Oper.wp at *
  rw [execOp_put oj hsj a oi.dst v h1] at h
  generalize (execOp a.eval oj).run P w=r at *
  rcases r with ⟨n,w'⟩ | ⟨x,w'⟩
  ·cases n <;> simp only [Oper.upon] at h ⊢
   case value u=>exact ⟨keep u,by rw [←Act.put_comm a v u h2];exact h⟩
   case skip=>exact ⟨keep _,by rw [←Act.put_comm a v undef h2];exact h⟩
   case defer d =>
    refine ⟨hPi _ _ (hPi a { a with defers:=d :: a.defers } hy rfl rfl) (execOp_put oi hsi _ oj.dst _ h3) (wanted_put oi _ oj.dst _ h3),?_⟩
    rw [←Act.put_comm _ v undef h2,←Act.put_defers]
    exact h
   case enter f args =>
    refine Calls.mono h fun e w'' he=>?_
    rcases e with u | c | _
    ·exact ⟨keep u,by rw [←Act.put_comm a v u h2];exact he⟩
    ·exact hQ _ _ _ he
    ·exact he
   case row row args=>exact Rows.mono h fun u w'' he=>⟨keep u,by rw [←Act.put_comm a v u h2];exact he⟩
  ·cases x <;> simp only [Oper.upon] at h ⊢
   case panic u=>exact hQ _ _ _ h
 ·rename_i hw
  simp only [hw] at h
  exact ⟨keep _,by rw [←Act.put_comm a v undef h2];exact h⟩
def May (bars:List Nat) (R:World→World→Prop) (listed:Array Bool) (w w1:World):Prop:=if Xw bars listed=true then w1=w else R w w1
theorem May.refl (M:YO R) (bars:List Nat) (listed:Array Bool) (w:World):May bars R listed w w:=by
 unfold May
 split
 ·rfl
 ·exact M.refl w
theorem May.of {bars:List Nat} {listed:Array Bool} {w w1:World} (hp:Xw bars listed=false) (h:R w w1):May bars R listed w w1:=by
 unfold May
 rw [if_neg (by rw [hp];exact Bool.noConfusion)]
 exact h
theorem May.out {bars:List Nat} {listed:Array Bool} {w w1:World} (hp:Xw bars listed=false) (h:May bars R listed w w1):R w w1:=by
 unfold May at h
 rwa [if_neg (by rw [hp];exact Bool.noConfusion)] at h
theorem May.eq {bars:List Nat} {listed:Array Bool} {w w1:World} (hp:Xw bars listed=true) (h:May bars R listed w w1):w1=w:=by
 unfold May at h
 rwa [if_pos hp] at h
def wpG (P:Program) (ops:Array Oper) (Q:Exit→Act→World→Prop) (bars:List Nat) (R:World→World→Prop):Nat→Array Bool→Act→World→Prop
 | 0,listed,a,w=>Region.ready .any ops listed=[]∧∀ w1,May bars R listed w w1→Q .normal a w1
 | fuel+1,listed,a,w=>∀ w1,May bars R listed w w1→(Region.ready .any ops listed=[]→Q .normal a w1) ∧
   ∀ i∈Region.ready .any ops listed,wpOp P ops Q i (fun a' w'=>(Xw bars (listed.setIfInBounds i true)=false→R w1 w')∧wpG P ops Q bars R fuel (listed.setIfInBounds i true) a' w') a w1
theorem jY (M:YO R) {bars:List Nat}:∀ (fuel:Nat) (listed:Array Bool) (a:Act) (w w2:World),Xw bars listed=false→R w w2→wpG P ops Q bars R fuel listed a w→wpG P ops Q bars R fuel listed a w2
 | 0,_,_,_,_,hp,hR,h=>⟨h.1,fun w1 h1=>h.2 w1 (.of hp (M.trans _ _ _ hR (h1.out hp)))⟩
 | _+1,_,_,_,_,hp,hR,h=>fun w1 h1=>h w1 (.of hp (M.trans _ _ _ hR (h1.out hp)))
theorem xF (M:YO R) {bars:List Nat}:∀ (fuel:Nat) (listed:Array Bool) (a:Act) (w:World),wpG P ops Q bars R fuel listed a w→wpAny P .any ops Q fuel listed a w
 | 0,_,_,w,h=>⟨h.1,h.2 w (.refl M _ _ w)⟩
 | fuel+1,_,_,w,h=>⟨(h w (.refl M _ _ w)).1,fun i hi=>wpOp_mono (fun a' w' h'=>xF M fuel _ a' w' h'.2) ((h w (.refl M _ _ w)).2 i hi)⟩
theorem zGw (M:YO R) {bars:List Nat} {i:Nat} {oi:Oper} {v:Value} (hi:ops[i]?=some oi) (hsel:∀ (j:Nat) (o:Oper) cs b,ops[j]?=some o→o.op≠.select cs b)
  (hQ:∀ c a w,Q (.panic c) (a.put oi.dst v) w→Q (.panic c) a w) (hib:i ∉ bars) (hbar:∀ b∈bars,∀ ob,ops[b]?=some ob→∃ e∈ob.after,Region.binds .any e=true∧e.on=i) :
  ∀ (fuel:Nat) (listed:Array Bool) (a:Act) (w:World),Xw bars listed=false →
   (∀ j oj,ops[j]?=some oj→j≠i→listed.getD j true=false→(∀ e∈oj.after,Region.binds .any e=true→e.on≠i)→oi.apart ops oj=true) →
   i∈Region.ready .any ops listed→PureAt P ops R w oi v a→wpG P ops Q bars R fuel (listed.setIfInBounds i true) (a.put oi.dst v) w→wpG P ops Q bars R (fuel+1) listed a w:=by
 intro fuel
 induction fuel with
 | zero =>
  intro listed a w hp _ hr hy H w1 hw1
  have hp':Xw bars (listed.setIfInBounds i true)=false:=by rw [UD hib];exact hp
  have hR1:=hw1.out hp
  refine ⟨fun h=>(by rw [h] at hr;cases hr),fun j hj=>?_⟩
  by_cases hji:j=i
  ·subst hji
   exact hy.op M hi hR1 fun w' h'=>⟨fun _=>h',jY M _ _ _ _ _ hp' (M.trans _ _ _ hR1 h') H⟩
  ·have:=ready_mono hj hji
   rw [H.1] at this
   cases this
 | succ fuel ih =>
  intro listed a w hp hfree hr hy H w1 hw1
  have hp':Xw bars (listed.setIfInBounds i true)=false:=by rw [UD hib];exact hp
  have hR1:=hw1.out hp
  refine ⟨fun h=>(by rw [h] at hr;cases hr),fun j hj=>?_⟩
  by_cases hji:j=i
  ·subst hji
   exact hy.op M hi hR1 fun w' h'=>⟨fun _=>h',jY M _ _ _ _ _ hp' (M.trans _ _ _ hR1 h') H⟩
  ·have h1:=(H w1 (.of hp' hR1)).2 j (ready_mono hj hji)
   obtain ⟨hjun,oj,hoj,hall⟩:=mem_ready.1 hj
   have hnot:∀ e∈oj.after,Region.binds .any e=true→e.on≠i:=fun e he hb heq=>by
    have h1:=hall e he hb
    have h0:=(mem_ready.1 hr).1
    rw [heq] at h1
    rcases Nat.lt_or_ge i listed.size with h' | h'
    ·simp [h'] at h0 h1;rw [h0] at h1;cases h1
    ·simp [Array.getElem?_eq_none h'] at h1
   have hjb:j ∉ bars:=fun hb=>by
    obtain ⟨e,he,hbi,hei⟩:=hbar j hb oj hoj
    exact hnot e he hbi hei
   have hpj:Xw bars (listed.setIfInBounds j true)=false:=by rw [UD hjb];exact hp
   have hpij:Xw bars ((listed.setIfInBounds i true).setIfInBounds j true)=false:=by rw [UD hjb];exact hp'
   have h2:=zDg (Pi:=PureAt P ops R w1 oi v) hoj (hfree j oj hoj hji hjun hnot) (fun cs b=>hsel i oi cs b hi) (fun cs b=>hsel j oj cs b hoj) (fun _ _ h he hw=>h.same he hw) hQ (hy.later M hR1) h1
   have hfree':∀ k ok,ops[k]?=some ok→k≠i→(listed.setIfInBounds j true).getD k true=false →
     (∀ e∈ok.after,Region.binds .any e=true→e.on≠i)→oi.apart ops ok=true:=fun k ok hk hki hun hno=>by
    refine hfree k ok hk hki ?_ hno
    by_cases hjk:j=k
    ·subst hjk;exact hjun
    ·rw [getD_set_ne true hjk] at hun;exact hun
   refine wpOp_mono (fun a' w' h3=>?_) h2
   have hRw:=h3.2.1 hpij
   refine ⟨fun _=>hRw,ih (listed.setIfInBounds j true) a' w' hpj hfree' (ready_mono hr (Ne.symm hji)) (h3.1.later M hRw) ?_⟩
   rw [Array.setIfInBounds_comm _ _ hji]
   exact h3.2.2
theorem zDs {bars:List Nat} {i:Nat} {oi:Oper} {v:Value} (hi:ops[i]?=some oi) (hsel:∀ (j:Nat) (o:Oper) cs b,ops[j]?=some o→o.op≠.select cs b)
  (hQ:∀ c a w,Q (.panic c) (a.put oi.dst v) w→Q (.panic c) a w) :
  ∀ (fuel:Nat) (listed:Array Bool) (a:Act) (w:World),Xw bars listed=true →
   (∀ j oj,ops[j]?=some oj→j≠i→listed.getD j true=false→(∀ e∈oj.after,Region.binds .any e=true→e.on≠i)→oi.apart ops oj=true) →
   i∈Region.ready .any ops listed→YieldsIf P ops (fun _=>True) oi v a→wpG P ops Q bars R fuel (listed.setIfInBounds i true) (a.put oi.dst v) w→wpG P ops Q bars R (fuel+1) listed a w:=by
 intro fuel
 have hno:∀ {listed:Array Bool} {j:Nat} {w w':World},Xw bars listed=true→Xw bars (listed.setIfInBounds j true)=false→R w w':=fun h h'=>by
  rw [JS h] at h'
  cases h'
 induction fuel with
 | zero =>
  intro listed a w hp _ hr hy H w1 hw1
  obtain rfl:=hw1.eq hp
  refine ⟨fun h=>(by rw [h] at hr;cases hr),fun j hj=>?_⟩
  by_cases hji:j=i
  ·subst hji
   exact hy.wpOp hi trivial ⟨hno hp,H⟩
  ·have:=ready_mono hj hji
   rw [H.1] at this
   cases this
 | succ fuel ih =>
  intro listed a w hp hfree hr hy H w1 hw1
  obtain rfl:=hw1.eq hp
  refine ⟨fun h=>(by rw [h] at hr;cases hr),fun j hj=>?_⟩
  by_cases hji:j=i
  ·subst hji
   exact hy.wpOp hi trivial ⟨hno hp,H⟩
  ·have h1:=(H w1 (by unfold May;rw [if_pos (JS hp)])).2 j (ready_mono hj hji)
   obtain ⟨hjun,oj,hoj,hall⟩:=mem_ready.1 hj
   have hnot:∀ e∈oj.after,Region.binds .any e=true→e.on≠i:=fun e he hb heq=>by
    have h1:=hall e he hb
    have h0:=(mem_ready.1 hr).1
    rw [heq] at h1
    rcases Nat.lt_or_ge i listed.size with h' | h'
    ·simp [h'] at h0 h1;rw [h0] at h1;cases h1
    ·simp [Array.getElem?_eq_none h'] at h1
   have h2:=wpOp_putIf hoj (hfree j oj hoj hji hjun hnot) (fun cs b=>hsel i oi cs b hi) (fun cs b=>hsel j oj cs b hoj) hQ hy h1
   have hfree':∀ k ok,ops[k]?=some ok→k≠i→(listed.setIfInBounds j true).getD k true=false →
     (∀ e∈ok.after,Region.binds .any e=true→e.on≠i)→oi.apart ops ok=true:=fun k ok hk hki hun hno=>by
    refine hfree k ok hk hki ?_ hno
    by_cases hjk:j=k
    ·subst hjk;exact hjun
    ·rw [getD_set_ne true hjk] at hun;exact hun
   refine wpOp_mono (fun a' w' h3=>⟨hno hp,ih (listed.setIfInBounds j true) a' w' (JS hp) hfree' (ready_mono hr (Ne.symm hji)) h3.1 ?_⟩) h2
   rw [Array.setIfInBounds_comm _ _ hji]
   exact h3.2.2
end
def KH (P:Program) (l:List Oper) (hs bars:List Nat) (Q:Exit→Act→World→Prop) (R:World→World→Prop) (order:List Nat) (listed:Array Bool) (a:Act) (w:World):Prop :=
 Region.noSelect l.toArray=true→Jk l hs bars order listed=true→wpG P l.toArray Q bars R order.length listed a w
section
variable {P:Program} {l:List Oper} {hs bars:List Nat} {Q:Exit→Act→World→Prop} {R:World→World→Prop} {rest:List Nat} {i:Nat} {o:Oper} {listed:Array Bool} {a:Act} {w:World}
theorem ZF {id:Nat} (R:World→World→Prop) (M:YO R) (hs bars order:List Nat) (hm:P.follows .mixedOrders=true) (hok:(Region.noSelect l.toArray&&order.length == l.length&&Jk l hs bars order (List.replicate l.length false).toArray)=true)
  (h:KH P l hs bars Q R order (List.replicate l.length false).toArray a w.drew):(Code.region id l.toArray true).wp P Q a w:=by
 simp only [Bool.and_eq_true,beq_iff_eq] at hok
 refine wp_region_any hm (xF (R:=R) (bars:=bars) M _ _ _ _ ?_)
 have h2:=h hok.1.1 hok.2
 have e:Array.replicate l.toArray.size false=(List.replicate l.length false).toArray:=by simp
 rw [hok.1.2] at h2
 rw [e]
 simpa using h2
theorem ZG (M:YO R) {order:List Nat} (h:∀ W,R w W→KH P l hs bars Q R order listed a W):KH P l hs bars Q R order listed a w:=h w (M.refl w)
theorem YD (hp:Xw bars listed=false) (h:∀ w1,R w w1→Q .normal a w1):KH P l hs bars Q R [] listed a w:=fun _ hok=>⟨by simpa [Jk] using hok,fun w1 h1=>h w1 (h1.out hp)⟩
theorem Z8 (hp:Xw bars listed=true) (h:Q .normal a w):KH P l hs bars Q R [] listed a w:=fun _ hok=>⟨by simpa [Jk] using hok,fun w1 h1=>by rw [h1.eq hp];exact h⟩
theorem zB {v:Value} (M:YO R) (hh:hs.contains i=false) (hp:Xw bars listed=false) (ho:l[i]?=some o) (hQ:∀ c a w,Q (.panic c) (a.put o.dst v) w→Q (.panic c) a w)
  (hpu:PureAt P l.toArray R w o v a) (h:KH P l hs bars Q R rest (listed.setIfInBounds i true) (a.put o.dst v) w):KH P l hs bars Q R (i :: rest) listed a w:=by
 intro hn hok
 obtain ⟨h1,h2,-,h4,h5⟩:=V6 hok
 obtain ⟨f1,f2,f3⟩:=h4 hh
 have hoa:l.toArray[i]?=some o:=by rw [List.getElem?_toArray];exact ho
 refine zGw M hoa (Region.noSelect_spec hn) hQ f2 (fun b hb ob hob=>yD hob ?_) _ _ _ _ hp (Region.free_spec hoa f1) (by simpa using h2) hpu (h hn h5)
 rcases f3 with f3 | f3
 ·rw [hp] at f3;cases f3
 ·exact f3 b hb
theorem Zi {v:Value} (M:YO R) (hh:hs.contains i=false) (hp:Xw bars listed=false) (ho:l[i]?=some o) (hw:Region.wanted o (yielded l.toArray a.tmps)=true) (hQ:∀ c a w,Q (.panic c) (a.put o.dst v) w→Q (.panic c) a w)
  (hrun:∀ w',R w w'→(execOp a.eval o).run P w'= .ok (.value v) w') (h:KH P l hs bars Q R rest (listed.setIfInBounds i true) (a.put o.dst v) w):KH P l hs bars Q R (i :: rest) listed a w :=
 zB M hh hp ho hQ (.inl ⟨hw, .inl hrun⟩) h
theorem Zl (M:YO R) (hh:hs.contains i=false) (hp:Xw bars listed=false) (ho:l[i]?=some o) (hw:Region.wanted o (yielded l.toArray a.tmps)=false) (hQ:∀ c a w,Q (.panic c) (a.put o.dst undef) w→Q (.panic c) a w)
  (h:KH P l hs bars Q R rest (listed.setIfInBounds i true) (a.put o.dst undef) w):KH P l hs bars Q R (i :: rest) listed a w :=
 zB M hh hp ho hQ (.inr ⟨hw,rfl⟩) h
theorem Zs {v:Value} {f:FuncId} {vals:Array Value} (M:YO R) (hh:hs.contains i=false) (hp:Xw bars listed=false) (ho:l[i]?=some o) (hw:Region.wanted o (yielded l.toArray a.tmps)=true) (hQ:∀ c a w,Q (.panic c) (a.put o.dst v) w→Q (.panic c) a w)
  (hrun:∀ w,(execOp a.eval o).run P w= .ok (.enter f vals) w) (hc:∀ w',R w w'→Calls P f vals w' fun e w''=>e= .returned v∧R w' w'')
  (h:KH P l hs bars Q R rest (listed.setIfInBounds i true) (a.put o.dst v) w):KH P l hs bars Q R (i :: rest) listed a w :=
 zB M hh hp ho hQ (.inl ⟨hw, .inr ⟨f,vals,hrun,hc⟩⟩) h
theorem Zu {v:Value} (hh:hs.contains i=false) (hp:Xw bars listed=true) (ho:l[i]?=some o) (hw:Region.wanted o (yielded l.toArray a.tmps)=true) (hQ:∀ c a w,Q (.panic c) (a.put o.dst v) w→Q (.panic c) a w)
  (hrun:∀ w',(execOp a.eval o).run P w'= .ok (.value v) w') (h:KH P l hs bars Q R rest (listed.setIfInBounds i true) (a.put o.dst v) w):KH P l hs bars Q R (i :: rest) listed a w:=by
 intro hn hok
 obtain ⟨h1,h2,-,h4,h5⟩:=V6 hok
 have hoa:l.toArray[i]?=some o:=by rw [List.getElem?_toArray];exact ho
 exact zDs hoa (Region.noSelect_spec hn) hQ _ _ _ _ hp (Region.free_spec hoa (h4 hh).1) (by simpa using h2) (.inl ⟨hw,fun w' _=>hrun w'⟩) (h hn h5)
theorem Z7 (hh:hs.contains i=true) (hp:Xw bars listed=false) (ho:l[i]?=some o) (hw:Region.wanted o (yielded l.toArray a.tmps)=true)
  (h:∀ w1,R w w1→o.wp P a w1 (fun a' w'=>(Xw bars (listed.setIfInBounds i true)=false→R w1 w')∧KH P l hs bars Q R rest (listed.setIfInBounds i true) a' w') Q):KH P l hs bars Q R (i :: rest) listed a w:=by
 intro hn hok
 obtain ⟨h1,-,h3,-,h5⟩:=V6 hok
 have hr:=h3 hh
 intro w1 hw1
 refine ⟨fun h0=>absurd (hr ▸ h0) (by simp),fun j hj=>?_⟩
 rw [hr,List.mem_singleton] at hj
 subst hj
 unfold wpOp
 have hi:l.toArray[j]?=some o:=by rw [List.getElem?_toArray];exact ho
 simp only [hi,hw,if_true]
 exact .inl (Oper.wp_mono (fun a' w' h'=>⟨h'.1,h'.2 hn h5⟩) (h w1 (hw1.out hp)))
end
def ren25:Go.Shelf.Ren:=⟨fun | 25=>149 | n=>n,fun | 22=>22 | n=>n,fun n=>n⟩
theorem lays25:Go.Proofs.Lays7.n25 Tryz.prog ren25:={ mixed:=by kernel_rfl,f25:=by kernel_rfl,t22:=by kernel_rfl,a22:=fun _=>by kernel_rfl,z22:=fun _=>by kernel_rfl,v22:=fun _=>by kernel_rfl,i22:=by kernel_rfl }
theorem zF5 (x y:Nat) (w:World):(callFunc 149 #[.int .u64 (x:Int), .int .u64 (y:Int), .int .u64 0]).run Tryz.prog w =
  .ok (.value (.tuple #[.int .u64 (((x+y)%18446744073709551616:Nat):Int), .int .u64 (((x+y) / 18446744073709551616:Nat):Int)])) w :=
 Any7.bits_Add64 lays25 x y 0 (by omega) w
def fv (p:Nat):Value:=.agg #[.int .u64 (p:Int)]
set_option maxRecDepth 100000 in
set_option maxHeartbeats 1000000 in
theorem YK (p:Nat) (w:World) (hp:okP p=true) :
  Calls Tryz.prog 112 #[fv p] w fun e w'=>e= .returned (.bool true)∧Below w.heap.size w w':=by
 unfold fv
 rcases Xh hp with rfl | rfl | rfl | rfl | rfl | rfl | rfl <;>
 ·go_enter Tryz.func112,Tryz.ntmps112
  go_wp2_with fail
  go_ret
  exact ⟨rfl,(Below.refl _ _).alloc (Nat.le_refl _) _⟩
set_option maxRecDepth 100000 in
set_option maxHeartbeats 1000000 in
theorem G8 (p:Nat) (w:World) (hp:okP p=true) :
  Calls Tryz.prog 128 #[fv p] w fun e w'=>e= .returned (.tuple #[.int .u64 ((ZJ p).1:Int), .int .i64 ((ZJ p).2.1:Int), .int .u64 ((ZJ p).2.2:Int)])∧Below w.heap.size w w':=by
 unfold fv
 rcases Xh hp with rfl | rfl | rfl | rfl | rfl | rfl | rfl <;>
 ·go_enter Tryz.func128,Tryz.ntmps128
  go_wp2_with fail
  go_ret3
  exact ⟨rfl,(Below.refl _ _).alloc (Nat.le_refl _) _⟩
set_option maxRecDepth 100000 in
set_option maxHeartbeats 400000 in
theorem xO (p:Nat) (w:World) (hp:okP p=true) :
  Calls Tryz.prog 69 #[fv p] w fun e w'=>e= .returned (.int .u64 ((ZJ p).1:Int))∧Below w.heap.size w w':=by
 have H:=Lib.hid (fun w=>G8 p w hp)
 clear hp
 unfold fv at *
 generalize ZJ p=r at *
 obtain ⟨a,b,c⟩:=r
 go_enter Tryz.func69,Tryz.ntmps69
 go_wp2_with (go_at_call 128;refine (H.out _).mono ?_;rintro e w1 ⟨rfl,hb⟩)
 go_ret
 exact ⟨rfl,Za ((Below.refl _ _).alloc (Nat.le_refl _) _) hb⟩
set_option maxRecDepth 100000 in
set_option maxHeartbeats 400000 in
theorem Y9 (p n:Nat) (w:World) (hp:0<p) :
  Calls Tryz.prog 117 #[fv p, .int .u64 n] w fun e w'=>e= .returned (.int .u64 ((n%p:Nat):Int))∧Below w.heap.size w w':=by
 unfold fv
 have p1:(0:Int)<(p:Int):=by omega
 have e1:(n:Int)%(p:Int)=((n%p:Nat):Int):=rfl
 have e2:(n:Int).tmod (p:Int)=((n%p:Nat):Int):=rfl
 by_cases h:p≤n
 ·have g:(p:Int)≤(n:Int):=by omega
  revert e1 e2
  generalize n%p=r
  intro e1 e2
  go_enter Tryz.func117,Tryz.ntmps117
  go_wp2_with fail
  go_ret
  exact ⟨rfl,(Below.refl _ _).alloc (Nat.le_refl _) _⟩
 ·have g:¬((p:Int)≤(n:Int)):=by omega
  have HE:=Lib.hid (Nat.mod_eq_of_lt (show n<p by omega))
  clear e1 e2
  rw [HE.out]
  go_enter Tryz.func117,Tryz.ntmps117
  go_wp2_with fail
  go_ret
  exact ⟨rfl,(Below.refl _ _).alloc (Nat.le_refl _) _⟩
set_option maxRecDepth 100000 in
set_option maxHeartbeats 400000 in
theorem G4 (p a b:Nat) (w:World) (hp:okP p=true) (ha:a<p) (hb:b<p) :
  Calls Tryz.prog 118 #[fv p, .int .u64 a, .int .u64 b] w fun e w'=>e= .returned (.int .u64 ((a*b%p:Nat):Int))∧Below w.heap.size w w':=by
 obtain ⟨h1,h2⟩:=Zr hp
 unfold fv
 have hhi:a*b / 18446744073709551616<p:=by
  have:a*b≤p*18446744073709551615:=Nat.mul_le_mul (by omega) (by omega)
  rw [Nat.div_lt_iff_lt_mul (by omega)]
  omega
 have hlo:a*b%18446744073709551616<18446744073709551616:=Nat.mod_lt _ (by omega)
 have hXY:=Nat.div_add_mod (a*b) 18446744073709551616
 rw [Nat.mul_comm 18446744073709551616] at hXY
 have HM:=Lib.hid (fun w=>j4 a b w (by omega) (by omega))
 revert hhi hlo hXY HM
 generalize a*b / 18446744073709551616=hi
 generalize a*b%18446744073709551616=lo
 intro hhi hlo hXY HM
 have HD:=Lib.hid (fun w=>jC hi lo p w hhi hlo h2)
 rw [hXY] at HD
 clear h1 h2 ha hb hhi hlo hXY hp
 revert HD
 generalize a*b / p=q
 generalize a*b%p=r
 intro HD
 go_enter Tryz.func118,Tryz.ntmps118
 go_wp2_with fail
 refine (HM.out _).mono ?_
 rintro e w1 ⟨rfl,rfl⟩
 go_wp2_with fail
 refine (HD.out _).mono ?_
 rintro e w3 ⟨rfl,k,rfl⟩
 go_wp2
 go_ret
 exact ⟨rfl,UT ((Below.refl _ _).alloc (Nat.le_refl _) _) _⟩
set_option maxRecDepth 100000 in
set_option maxHeartbeats 400000 in
theorem zA6 (p a b:Nat) (w:World) (hp:okP p=true) (ha:a<p) (hb:b<p) :
  Calls Tryz.prog 119 #[fv p, .int .u64 a, .int .u64 b] w fun e w'=>e= .returned (.int .u64 (((a+b)%p:Nat):Int))∧Below w.heap.size w w':=by
 obtain ⟨h1,h2⟩:=Zr hp
 unfold fv
 have hrun:=zF5 a b
 obtain ⟨s,hs⟩:∃ s,s=(a+b)%18446744073709551616:=⟨_,rfl⟩
 obtain ⟨c,hc⟩:∃ c,c=(a+b) / 18446744073709551616:=⟨_,rfl⟩
 rw [←hs,←hc] at hrun
 by_cases z:c=0
 ·have d1:((c:Int) != 0)=false:=by rw [bne_eq_false_iff_eq];omega
  have d1':(c:Int)=0:=by omega
  by_cases hge:p≤s
  ·have d2:(p:Int)≤(s:Int):=by omega
   have e:IntKind.u64.wrap ((s:Int)-(p:Int))=(((a+b)%p:Nat):Int):=by
    rw [XD s p hge (by omega)]
    congr 1
    have e1:s=a+b:=by omega
    rw [e1,Nat.mod_eq_sub_mod (by omega),Nat.mod_eq_of_lt (by omega)]
   generalize (a+b)%p=r at *
   clear hs hc hp z ha hb h1 h2 d1'
   go_enter Tryz.func119,Tryz.ntmps119
   go_wp2_with fail
   go_ret
   exact ⟨rfl,(Below.refl _ _).alloc (Nat.le_refl _) _⟩
  ·have d2:¬((p:Int)≤(s:Int)):=by omega
   have e:s=(a+b)%p:=by
    have e1:s=a+b:=by omega
    rw [e1,Nat.mod_eq_of_lt (by omega)]
   have HE:=Lib.hid e
   clear hs hc hp z ha hb h1 h2 d1' e
   rw [←HE.out]
   go_enter Tryz.func119,Tryz.ntmps119
   go_wp2_with fail
   go_ret
   exact ⟨rfl,(Below.refl _ _).alloc (Nat.le_refl _) _⟩
 ·have d1:((c:Int) != 0)=true:=by rw [bne_iff_ne];omega
  have e:IntKind.u64.wrap ((s:Int)-(p:Int))=(((a+b)%p:Nat):Int):=by
   have e1:(a+b)%p=a+b-p:=by rw [Nat.mod_eq_sub_mod (by omega),Nat.mod_eq_of_lt (by omega)]
   rw [e1,IntKind.wrap_u64]
   omega
  generalize (a+b)%p=r at *
  clear hs hc hp z ha hb h1 h2
  go_enter Tryz.func119,Tryz.ntmps119
  go_wp2_with fail
  go_ret
  exact ⟨rfl,(Below.refl _ _).alloc (Nat.le_refl _) _⟩
set_option maxRecDepth 100000 in
set_option maxHeartbeats 400000 in
theorem Vr (p n:Nat) (w:World) (hp:okP p=true) :
  Calls Tryz.prog 127 #[fv p, .int .u64 n] w fun e w'=>e= .returned (.int .u64 ((n%p:Nat):Int))∧Below w.heap.size w w':=by
 have HV:=Lib.hid (fun w=>YK p w hp)
 have HR:=Lib.hid (fun w=>Y9 p n w (by have:=Zr hp;omega))
 clear hp
 unfold fv at *
 generalize n%p=r at *
 have hb0:Below w.heap.size w (w.alloc (.cells #[.int .u64 (p:Int)] 96)):=(Below.refl _ _).alloc (Nat.le_refl _) _
 have kf:=Blk.new w 96 #[.int .u64 (p:Int)]
 go_enter Tryz.func127,Tryz.ntmps127
 go_wp2_with fail
 refine (HV.out _).mono ?_
 rintro e w1 ⟨rfl,hb1⟩
 replace kf:=kf.below hb1 kf.lt
 replace hb0:=Za hb0 hb1
 clear hb1
 have cf:=kf.cell
 go_wp2_with fail
 refine (HR.out _).mono ?_
 rintro e w2 ⟨rfl,hb2⟩
 go_wp2
 go_ret
 exact ⟨rfl,Za hb0 hb2⟩
set_option maxRecDepth 100000 in
set_option maxHeartbeats 400000 in
theorem YX (p a b:Nat) (w:World) (hp:okP p=true) :
  Calls Tryz.prog 111 #[fv p, .int .u64 a, .int .u64 b] w fun e w'=>e= .returned (.int .u64 (((a+b)%p:Nat):Int))∧Below w.heap.size w w':=by
 have hpp:0<p:=by have:=Zr hp;omega
 have HV:=Lib.hid (fun w=>YK p w hp)
 have HA:=Lib.hid (fun w=>Y9 p a w hpp)
 have HB:=Lib.hid (fun w=>Y9 p b w hpp)
 have HS:=Lib.hid (fun w=>zA6 p (a%p) (b%p) w hp (Nat.mod_lt _ hpp) (Nat.mod_lt _ hpp))
 rw [←Nat.add_mod] at HS
 clear hp hpp
 unfold fv at *
 generalize (a+b)%p=r at *
 generalize a%p=x at *
 generalize b%p=y at *
 have hb0:Below w.heap.size w (w.alloc (.cells #[.int .u64 (p:Int)] 96)):=(Below.refl _ _).alloc (Nat.le_refl _) _
 have kf:=Blk.new w 96 #[.int .u64 (p:Int)]
 go_enter Tryz.func111,Tryz.ntmps111
 go_wp2_with fail
 refine (HV.out _).mono ?_
 rintro e w1 ⟨rfl,hb1⟩
 replace kf:=kf.below hb1 kf.lt
 replace hb0:=Za hb0 hb1
 clear hb1
 have cf:=kf.cell
 have lf:=kf.lt
 go_wp2_with fail
 refine ZF (ZK) (later_moves) [] [] [0,1,2,3,4,5,6,7,8] (by kernel_rfl) (by kernel_rfl) ?_
 refine ZG (later_moves) ?_
 intro Wc hacc
 repeat (first | (refine Zl (later_moves) rfl rfl rfl rfl (fun _ _ _ h=>h) ?_;simp only [Act.put,zLa,zLb,zLc]) | (refine Zi (v:=?_) (later_moves) rfl rfl rfl rfl (fun _ _ _ h=>h) ?_ ?_;rotate_left;(· (intro w' hR;(first | have hcells:=Zb ((later_moves).trans _ _ _ hacc hR) | skip);go_simp;try with_reducible rfl));simp only [Act.put,zLa,zLb,zLc]))
 refine Zs (later_moves) rfl rfl rfl rfl (fun _ _ _ h=>h) (fun _=>by go_simp <;> rfl) (fun w' hR=>HA.out _) ?_
 simp only [Act.put,zLa,zLb,zLc]
 repeat (first | (refine Zl (later_moves) rfl rfl rfl rfl (fun _ _ _ h=>h) ?_;simp only [Act.put,zLa,zLb,zLc]) | (refine Zi (v:=?_) (later_moves) rfl rfl rfl rfl (fun _ _ _ h=>h) ?_ ?_;rotate_left;(· (intro w' hR;(first | have hcells:=Zb ((later_moves).trans _ _ _ hacc hR) | skip);go_simp;try with_reducible rfl));simp only [Act.put,zLa,zLb,zLc]))
 refine Zs (later_moves) rfl rfl rfl rfl (fun _ _ _ h=>h) (fun _=>by go_simp <;> rfl) (fun w' hR=>HB.out _) ?_
 simp only [Act.put,zLa,zLb,zLc]
 repeat (first | (refine Zl (later_moves) rfl rfl rfl rfl (fun _ _ _ h=>h) ?_;simp only [Act.put,zLa,zLb,zLc]) | (refine Zi (v:=?_) (later_moves) rfl rfl rfl rfl (fun _ _ _ h=>h) ?_ ?_;rotate_left;(· (intro w' hR;(first | have hcells:=Zb ((later_moves).trans _ _ _ hacc hR) | skip);go_simp;try with_reducible rfl));simp only [Act.put,zLa,zLb,zLc]))
 refine Zs (later_moves) rfl rfl rfl rfl (fun _ _ _ h=>h) (fun _=>by go_simp <;> rfl) (fun w' hR=>HS.out _) ?_
 simp only [Act.put,zLa,zLb,zLc]
 repeat (first | (refine Zl (later_moves) rfl rfl rfl rfl (fun _ _ _ h=>h) ?_;simp only [Act.put,zLa,zLb,zLc]) | (refine Zi (v:=?_) (later_moves) rfl rfl rfl rfl (fun _ _ _ h=>h) ?_ ?_;rotate_left;(· (intro w' hR;(first | have hcells:=Zb ((later_moves).trans _ _ _ hacc hR) | skip);go_simp;try with_reducible rfl));simp only [Act.put,zLa,zLb,zLc]))
 refine YD rfl ?_
 intro wd hRd
 replace hacc:=(later_moves).trans _ _ _ hacc hRd
 clear hRd
 go_wp2
 go_ret
 exact ⟨rfl,Za hb0.drew hacc⟩
theorem zE6 (p r a e n:Nat) (h:r*a^e%p=n) (he:e%2=1):(r*a%p)*(a*a%p)^(e / 2)%p=n:=by
 have h2:e=2*(e / 2)+1:=by omega
 rw [←h,Nat.mul_mod,Nat.mod_mod,←Nat.pow_mod,←Nat.mul_mod]
 conv=>rhs;rw [h2,Nat.pow_succ,Nat.pow_mul,Nat.pow_two,Nat.mul_comm _ a,←Nat.mul_assoc]
theorem zBz (p r a e n:Nat) (h:r*a^e%p=n) (he:e%2=0):r*(a*a%p)^(e / 2)%p=n:=by
 have h2:e=2*(e / 2):=by omega
 rw [←h,Nat.mul_mod,←Nat.pow_mod,←Nat.mul_mod]
 conv=>rhs;rw [h2,Nat.pow_mul,Nat.pow_two]
set_option maxRecDepth 100000 in
set_option maxHeartbeats 1000000 in
theorem yP (p a e:Nat) (w:World) (hp:okP p=true) (ha:a<p) (he:e<18446744073709551616) :
  Calls Tryz.prog 148 #[fv p, .int .u64 a, .int .u64 e] w fun e' w'=>e'= .returned (.int .u64 ((a^e%p:Nat):Int))∧Below w.heap.size w w':=by
 have hpp:1<p:=by have:=Zr hp;omega
 have HM:=Lib.hid (fun a b w (h1:a<p) (h2:b<p)=>G4 p a b w hp h1 h2)
 obtain ⟨n,hn⟩:∃ n,n=a^e%p:=⟨_,rfl⟩
 rw [←hn]
 have HI:=Lib.hid (show 1*a^e%p=n by rw [Nat.one_mul,hn])
 have HP:=Lib.hid hpp
 clear hn hp hpp
 unfold fv at *
 have hb0:Below w.heap.size w (w.alloc (.cells #[.int .u64 (p:Int)] 96)):=(Below.refl _ _).alloc (Nat.le_refl _) _
 have kf:=Blk.new w 96 #[.int .u64 (p:Int)]
 go_enter Tryz.func148,Tryz.ntmps148
 go_wp2_with fail
 generalize w.alloc _=w0 at hb0 kf ⊢
 go_loopw [1,2,7] (fun x y z wr=>∃ a' e' r:Nat,x= .int .u64 (a':Int)∧y= .int .u64 (e':Int)∧z= .int .u64 (r:Int)∧a'<p∧r<p∧e'<18446744073709551616∧Hid (r*a'^e'%p=n)∧Below w0.heap.size w0 wr) (fun _ y _ _=>(intOf y).toNat)
 case atStart=>exact ⟨a,e,1,rfl,rfl,rfl,ha,HP.out,he,HI.out,Below.refl _ _⟩
 case round =>
  obtain ⟨a',e',r,rfl,rfl,rfl,ha',hr',he',H,hbr⟩:=hrel
  have kf':=kf.below hbr kf.lt
  have cf:=kf'.cell
  by_cases h0:e'=0
  ·subst h0
   have HE:=Lib.hid (show r=n by have:=H.out;rw [Nat.pow_zero,Nat.mul_one,Nat.mod_eq_of_lt hr'] at this;exact this)
   go_wp2
   go_ret
   exact ⟨by rw [HE.out];rfl,hb0.trans (hbr.mono hb0.size)⟩
  ·have g1:(0:Int)<(e':Int):=by omega
   obtain ⟨f,hf⟩:∃ f,f=e' / 2:=⟨_,rfl⟩
   have e1:(e':Int) / 2=(f:Int):=by omega
   have eb:bits BinOp.and IntKind.u64 (e':Int) 1=((e'%2:Nat):Int):=by
    have:=bits_and_u64_nat e' 1 he' (by omega)
    rw [Nat.and_one_is_mod] at this
    exact this
   rcases (show e'%2=1∨e'%2=0 by omega) with hodd | hodd
   ·rw [hodd] at eb
    have HF:=Lib.hid hf
    have HM1:=Lib.hid (fun w=>HM.out r a' w hr' ha')
    have HX:=zE6 p r a' e' n H.out hodd
    rw [←hf] at HX
    have hs2:r*a'%p<p:=Nat.mod_lt _ (by have:=HP.out;omega)
    generalize r*a'%p=s at *
    have HX0:=fun (hf0:f=0)=>show s*a'^f%p=n by rw [hf0,Nat.pow_zero] at HX ⊢;exact HX
    replace HX:=Lib.hid HX
    replace HX0:=Lib.hid HX0
    clear hodd hf
    go_wp2_with fail
    refine (HM1.out _).mono ?_
    rintro e w1 ⟨rfl,hb1⟩
    replace kf':=kf'.below hb1 kf'.lt
    replace hbr:=YM hbr hb1 hbr.size
    clear cf hb1
    have cf:=kf'.cell
    by_cases hf0:f=0
    ·have d3:decide (0<f)=false:=decide_eq_false (by omega)
     have HF0:=Lib.hid hf0
     clear hf0
     go_wp2_with fail
     go_roundw
     case rel=>exact ⟨a',f,s,rfl,rfl,rfl,ha',hs2,by have:=HF.out;omega,HX0.out HF0.out,hbr⟩
     case measure=>have:=HF.out;simp [intOf];omega
    ·have g3:(0:Int)<(f:Int):=by omega
     have HQ:=Lib.hid (fun w=>HM.out a' a' w ha' ha')
     have hq2:a'*a'%p<p:=Nat.mod_lt _ (by have:=HP.out;omega)
     have HN2:=Lib.hid HX.out
     generalize a'*a'%p=q at *
     go_wp2_with fail
     refine (HQ.out _).mono ?_
     rintro e w2 ⟨rfl,hb2⟩
     replace hbr:=YM hbr hb2 hbr.size
     go_wp2
     go_roundw
     case rel=>exact ⟨q,f,s,rfl,rfl,rfl,hq2,hs2,by have:=HF.out;omega,HN2.out,hbr⟩
     case measure=>have:=HF.out;simp [intOf];omega
   ·rw [hodd] at eb
    have HF:=Lib.hid hf
    have HX:=zBz p r a' e' n H.out hodd
    rw [←hf] at HX
    have HX0:=fun (hf0:f=0)=>show r*a'^f%p=n by rw [hf0,Nat.pow_zero] at HX ⊢;exact HX
    replace HX:=Lib.hid HX
    replace HX0:=Lib.hid HX0
    clear hodd hf
    by_cases hf0:f=0
    ·have d3:decide (0<f)=false:=decide_eq_false (by omega)
     have HF0:=Lib.hid hf0
     clear hf0
     go_wp2_with fail
     go_roundw
     case rel=>exact ⟨a',f,r,rfl,rfl,rfl,ha',hr',by have:=HF.out;omega,HX0.out HF0.out,hbr⟩
     case measure=>have:=HF.out;simp [intOf];omega
    ·have g3:(0:Int)<(f:Int):=by omega
     have HQ:=Lib.hid (fun w=>HM.out a' a' w ha' ha')
     have hq2:a'*a'%p<p:=Nat.mod_lt _ (by have:=HP.out;omega)
     have HN2:=Lib.hid HX.out
     generalize a'*a'%p=q at *
     go_wp2_with fail
     refine (HQ.out _).mono ?_
     rintro e w2 ⟨rfl,hb2⟩
     replace hbr:=YM hbr hb2 hbr.size
     go_wp2
     go_roundw
     case rel=>exact ⟨q,f,r,rfl,rfl,rfl,hq2,hr',by have:=HF.out;omega,HN2.out,hbr⟩
     case measure=>have:=HF.out;simp [intOf];omega
set_option maxRecDepth 100000 in
set_option maxHeartbeats 400000 in
theorem XI (p a b:Nat) (w:World) (hp:okP p=true) :
  Calls Tryz.prog 56 #[fv p, .int .u64 a, .int .u64 b] w fun e w'=>e= .returned (.int .u64 ((a*b%p:Nat):Int))∧Below w.heap.size w w':=by
 have hpp:0<p:=by have:=Zr hp;omega
 have HV:=Lib.hid (fun w=>YK p w hp)
 have HA:=Lib.hid (fun w=>Y9 p a w hpp)
 have HB:=Lib.hid (fun w=>Y9 p b w hpp)
 have HS:=Lib.hid (fun w=>G4 p (a%p) (b%p) w hp (Nat.mod_lt _ hpp) (Nat.mod_lt _ hpp))
 rw [←Nat.mul_mod] at HS
 clear hp hpp
 generalize a*b%p=r at *
 generalize a%p=x at *
 generalize b%p=y at *
 unfold fv at *
 have hb0:Below w.heap.size w (w.alloc (.cells #[.int .u64 (p:Int)] 96)):=(Below.refl _ _).alloc (Nat.le_refl _) _
 have kf:=Blk.new w 96 #[.int .u64 (p:Int)]
 go_enter Tryz.func56,Tryz.ntmps56
 go_wp2_with fail
 refine (HV.out _).mono ?_
 rintro e' w1 ⟨rfl,hb1⟩
 replace kf:=kf.below hb1 kf.lt
 replace hb0:=Za hb0 hb1
 clear hb1
 have cf:=kf.cell
 have lf:=kf.lt
 go_wp2_with fail
 refine ZF (ZK) (later_moves) [] [] [0,1,2,3,4,5,6,7,8] (by kernel_rfl) (by kernel_rfl) ?_
 refine ZG (later_moves) ?_
 intro Wc hacc
 repeat (first | (refine Zl (later_moves) rfl rfl rfl rfl (fun _ _ _ h=>h) ?_;simp only [Act.put,zLa,zLb,zLc]) | (refine Zi (v:=?_) (later_moves) rfl rfl rfl rfl (fun _ _ _ h=>h) ?_ ?_;rotate_left;(· (intro w' hR;(first | have hcells:=Zb ((later_moves).trans _ _ _ hacc hR) | skip);go_simp;try with_reducible rfl));simp only [Act.put,zLa,zLb,zLc]))
 refine Zs (later_moves) rfl rfl rfl rfl (fun _ _ _ h=>h) (fun _=>by go_simp <;> rfl) (fun w' hR=>HA.out _) ?_
 simp only [Act.put,zLa,zLb,zLc]
 repeat (first | (refine Zl (later_moves) rfl rfl rfl rfl (fun _ _ _ h=>h) ?_;simp only [Act.put,zLa,zLb,zLc]) | (refine Zi (v:=?_) (later_moves) rfl rfl rfl rfl (fun _ _ _ h=>h) ?_ ?_;rotate_left;(· (intro w' hR;(first | have hcells:=Zb ((later_moves).trans _ _ _ hacc hR) | skip);go_simp;try with_reducible rfl));simp only [Act.put,zLa,zLb,zLc]))
 refine Zs (later_moves) rfl rfl rfl rfl (fun _ _ _ h=>h) (fun _=>by go_simp <;> rfl) (fun w' hR=>HB.out _) ?_
 simp only [Act.put,zLa,zLb,zLc]
 repeat (first | (refine Zl (later_moves) rfl rfl rfl rfl (fun _ _ _ h=>h) ?_;simp only [Act.put,zLa,zLb,zLc]) | (refine Zi (v:=?_) (later_moves) rfl rfl rfl rfl (fun _ _ _ h=>h) ?_ ?_;rotate_left;(· (intro w' hR;(first | have hcells:=Zb ((later_moves).trans _ _ _ hacc hR) | skip);go_simp;try with_reducible rfl));simp only [Act.put,zLa,zLb,zLc]))
 refine Zs (later_moves) rfl rfl rfl rfl (fun _ _ _ h=>h) (fun _=>by go_simp <;> rfl) (fun w' hR=>HS.out _) ?_
 simp only [Act.put,zLa,zLb,zLc]
 repeat (first | (refine Zl (later_moves) rfl rfl rfl rfl (fun _ _ _ h=>h) ?_;simp only [Act.put,zLa,zLb,zLc]) | (refine Zi (v:=?_) (later_moves) rfl rfl rfl rfl (fun _ _ _ h=>h) ?_ ?_;rotate_left;(· (intro w' hR;(first | have hcells:=Zb ((later_moves).trans _ _ _ hacc hR) | skip);go_simp;try with_reducible rfl));simp only [Act.put,zLa,zLb,zLc]))
 refine YD rfl ?_
 intro wd hRd
 replace hacc:=(later_moves).trans _ _ _ hacc hRd
 clear hRd
 go_wp2
 go_ret
 exact ⟨rfl,Za hb0.drew hacc⟩
set_option maxRecDepth 100000 in
set_option maxHeartbeats 400000 in
theorem zA8 (p a:Nat) (w:World) (hp:okP p=true) :
  Calls Tryz.prog 116 #[fv p, .int .u64 a] w fun e w'=>e= .returned (.int .u64 ((a^(p-2)%p:Nat):Int))∧Below w.heap.size w w':=by
 obtain ⟨hp1,hp2⟩:=Zr hp
 have HV:=Lib.hid (fun w=>YK p w hp)
 have HA:=Lib.hid (fun w=>Y9 p a w (by omega))
 have HS:=Lib.hid (fun w=>yP p (a%p) (p-2) w hp (Nat.mod_lt _ (by omega)) (by omega))
 have e1:IntKind.u64.wrap ((p:Int)-2)=((p-2:Nat):Int):=XD p 2 (by omega) hp2
 have e2:(p:Int)-2=((p-2:Nat):Int):=by omega
 have e3:IntKind.u64.wrap ((p-2:Nat):Int)=((p-2:Nat):Int):=YJ _ (by omega)
 rw [←Nat.pow_mod] at HS
 clear hp hp1 hp2
 generalize a^(p-2)%p=r at *
 generalize a%p=x at *
 generalize p-2=m at *
 unfold fv at *
 have hb0:Below w.heap.size w (w.alloc (.cells #[.int .u64 (p:Int)] 96)):=(Below.refl _ _).alloc (Nat.le_refl _) _
 have kf:=Blk.new w 96 #[.int .u64 (p:Int)]
 go_enter Tryz.func116,Tryz.ntmps116
 go_wp2_with fail
 refine (HV.out _).mono ?_
 rintro e' w1 ⟨rfl,hb1⟩
 replace kf:=kf.below hb1 kf.lt
 replace hb0:=Za hb0 hb1
 clear hb1
 have cf:=kf.cell
 have lf:=kf.lt
 go_wp2_with fail
 refine ZF (ZK) (later_moves) [] [] [0,1,2,3,4,5,6,7,8] (by kernel_rfl) (by kernel_rfl) ?_
 refine ZG (later_moves) ?_
 intro Wc hacc
 repeat (first | (refine Zl (later_moves) rfl rfl rfl rfl (fun _ _ _ h=>h) ?_;simp only [Act.put,zLa,zLb,zLc]) | (refine Zi (v:=?_) (later_moves) rfl rfl rfl rfl (fun _ _ _ h=>h) ?_ ?_;rotate_left;(· (intro w' hR;(first | have hcells:=Zb ((later_moves).trans _ _ _ hacc hR) | skip);go_simp;try with_reducible rfl));simp only [Act.put,zLa,zLb,zLc]))
 refine Zs (later_moves) rfl rfl rfl rfl (fun _ _ _ h=>h) (fun _=>by go_simp <;> rfl) (fun w' hR=>HA.out _) ?_
 simp only [Act.put,zLa,zLb,zLc]
 repeat (first | (refine Zl (later_moves) rfl rfl rfl rfl (fun _ _ _ h=>h) ?_;simp only [Act.put,zLa,zLb,zLc]) | (refine Zi (v:=?_) (later_moves) rfl rfl rfl rfl (fun _ _ _ h=>h) ?_ ?_;rotate_left;(· (intro w' hR;(first | have hcells:=Zb ((later_moves).trans _ _ _ hacc hR) | skip);go_simp;try with_reducible rfl));simp only [Act.put,zLa,zLb,zLc]))
 refine Zs (later_moves) rfl rfl rfl rfl (fun _ _ _ h=>h) (fun _=>by go_simp <;> rfl) (fun w' hR=>HS.out _) ?_
 simp only [Act.put,zLa,zLb,zLc]
 repeat (first | (refine Zl (later_moves) rfl rfl rfl rfl (fun _ _ _ h=>h) ?_;simp only [Act.put,zLa,zLb,zLc]) | (refine Zi (v:=?_) (later_moves) rfl rfl rfl rfl (fun _ _ _ h=>h) ?_ ?_;rotate_left;(· (intro w' hR;(first | have hcells:=Zb ((later_moves).trans _ _ _ hacc hR) | skip);go_simp;try with_reducible rfl));simp only [Act.put,zLa,zLb,zLc]))
 refine YD rfl ?_
 intro wd hRd
 replace hacc:=(later_moves).trans _ _ _ hacc hRd
 clear hRd
 go_wp2
 go_ret
 exact ⟨rfl,Za hb0.drew hacc⟩
def Y1 (p a:Nat):Nat:=if a%p=0 then 0 else p-a%p
set_option maxRecDepth 100000 in
set_option maxHeartbeats 400000 in
theorem zAy (p a:Nat) (w:World) (hp:okP p=true) :
  Calls Tryz.prog 85 #[fv p, .int .u64 a] w fun e w'=>e= .returned (.int .u64 (Y1 p a:Int))∧Below w.heap.size w w':=by
 obtain ⟨hp1,hp2⟩:=Zr hp
 have HA:=Lib.hid (fun w=>Vr p a w hp)
 have hx:a%p<p:=Nat.mod_lt _ (by omega)
 have HN:=Lib.hid (show Y1 p a=if a%p=0 then 0 else p-a%p from rfl)
 clear hp
 generalize Y1 p a=r at *
 generalize a%p=x at *
 by_cases h0:x=0
 ·have HR:=Lib.hid (show r=0 by rw [HN.out,if_pos h0])
  subst h0
  unfold fv at *
  have hb0:Below w.heap.size w (w.alloc (.cells #[.int .u64 (p:Int)] 96)):=(Below.refl _ _).alloc (Nat.le_refl _) _
  have kf:=Blk.new w 96 #[.int .u64 (p:Int)]
  go_enter Tryz.func85,Tryz.ntmps85
  go_wp2_with fail
  refine (HA.out _).mono ?_
  rintro e' w1 ⟨rfl,hb1⟩
  go_wp2
  go_ret
  exact ⟨by rw [HR.out];rfl,Za hb0 hb1⟩
 ·have HR:=Lib.hid (show r=p-x by rw [HN.out,if_neg h0])
  have d1:((x:Int) == 0)=false:=by rw [beq_eq_false_iff_ne];omega
  have e1:IntKind.u64.wrap ((p:Int)-(x:Int))=((p-x:Nat):Int):=XD p x (by omega) hp2
  rw [HR.out]
  clear hx hp1 hp2 h0 HR HN
  generalize p-x=z at *
  unfold fv at *
  have hb0:Below w.heap.size w (w.alloc (.cells #[.int .u64 (p:Int)] 96)):=(Below.refl _ _).alloc (Nat.le_refl _) _
  have kf:=Blk.new w 96 #[.int .u64 (p:Int)]
  go_enter Tryz.func85,Tryz.ntmps85
  go_wp2_with fail
  refine (HA.out _).mono ?_
  rintro e' w1 ⟨rfl,hb1⟩
  replace kf:=kf.below hb1 kf.lt
  have cf:=kf.cell
  go_wp2
  go_ret
  exact ⟨rfl,Za hb0 hb1⟩
set_option maxRecDepth 100000 in
set_option maxHeartbeats 400000 in
theorem Kz (p a b:Nat) (w:World) (hp:okP p=true) :
  Calls Tryz.prog 57 #[fv p, .int .u64 a, .int .u64 b] w fun e w'=>e= .returned (.int .u64 (((a+Y1 p b)%p:Nat):Int))∧Below w.heap.size w w':=by
 have HN:=Lib.hid (fun w=>zAy p b w hp)
 have HS:=Lib.hid (fun w=>YX p a (Y1 p b) w hp)
 clear hp
 generalize (a+Y1 p b)%p=r at *
 generalize Y1 p b=x at *
 unfold fv at *
 have hb0:Below w.heap.size w (w.alloc (.cells #[.int .u64 (p:Int)] 96)):=(Below.refl _ _).alloc (Nat.le_refl _) _
 have kf:=Blk.new w 96 #[.int .u64 (p:Int)]
 go_enter Tryz.func57,Tryz.ntmps57
 have cf:=kf.cell
 have lf:=kf.lt
 go_wp2_with fail
 refine ZF (ZK) (later_moves) [] [] [0,1,2,3,4,5,6] (by kernel_rfl) (by kernel_rfl) ?_
 refine ZG (later_moves) ?_
 intro Wc hacc
 repeat (first | (refine Zl (later_moves) rfl rfl rfl rfl (fun _ _ _ h=>h) ?_;simp only [Act.put,zLa,zLb,zLc]) | (refine Zi (v:=?_) (later_moves) rfl rfl rfl rfl (fun _ _ _ h=>h) ?_ ?_;rotate_left;(· (intro w' hR;(first | have hcells:=Zb ((later_moves).trans _ _ _ hacc hR) | skip);go_simp;try with_reducible rfl));simp only [Act.put,zLa,zLb,zLc]))
 refine Zs (later_moves) rfl rfl rfl rfl (fun _ _ _ h=>h) (fun _=>by go_simp <;> rfl) (fun w' hR=>HN.out _) ?_
 simp only [Act.put,zLa,zLb,zLc]
 repeat (first | (refine Zl (later_moves) rfl rfl rfl rfl (fun _ _ _ h=>h) ?_;simp only [Act.put,zLa,zLb,zLc]) | (refine Zi (v:=?_) (later_moves) rfl rfl rfl rfl (fun _ _ _ h=>h) ?_ ?_;rotate_left;(· (intro w' hR;(first | have hcells:=Zb ((later_moves).trans _ _ _ hacc hR) | skip);go_simp;try with_reducible rfl));simp only [Act.put,zLa,zLb,zLc]))
 refine Zs (later_moves) rfl rfl rfl rfl (fun _ _ _ h=>h) (fun _=>by go_simp <;> rfl) (fun w' hR=>HS.out _) ?_
 simp only [Act.put,zLa,zLb,zLc]
 repeat (first | (refine Zl (later_moves) rfl rfl rfl rfl (fun _ _ _ h=>h) ?_;simp only [Act.put,zLa,zLb,zLc]) | (refine Zi (v:=?_) (later_moves) rfl rfl rfl rfl (fun _ _ _ h=>h) ?_ ?_;rotate_left;(· (intro w' hR;(first | have hcells:=Zb ((later_moves).trans _ _ _ hacc hR) | skip);go_simp;try with_reducible rfl));simp only [Act.put,zLa,zLb,zLc]))
 refine YD rfl ?_
 intro wd hRd
 replace hacc:=(later_moves).trans _ _ _ hacc hRd
 clear hRd
 go_wp2
 go_ret
 exact ⟨rfl,Za hb0.drew hacc⟩
structure St where
 a:Nat
 b:Nat
 c:Nat
def St.val (s:St):Value:=.agg #[.int .u64 (s.a:Int), .int .u64 (s.b:Int), .int .u64 (s.c:Int)]
def St.cs (s:St):Array Value:=#[.int .u64 (s.a:Int), .int .u64 (s.b:Int), .int .u64 (s.c:Int)]
def St.ok (s:St):Prop:=s.a<18446744073709551616∧s.b<18446744073709551616∧s.c<18446744073709551616
def zd (k:Nat):Nat:=k*11400714819323198485%18446744073709551616
def Jc (p r i:Nat):Nat:=zd (3*r+i+1)%p
def X9 (p:Nat) (s:St):Nat:=((s.a+s.b)%p+s.c)%p
def j8 (p:Nat) (s:St):St:=⟨(s.a+X9 p s)%p,(s.b+X9 p s)%p,(s.c+X9 p s)%p⟩
def Ja (p r i x:Nat):Nat:=((x+Jc p r i)%p)^(ZJ p).2.2%p
def St.at_ (s:St) (i:Nat):Nat:=if i=0 then s.a else if i=1 then s.b else s.c
def yf (f:Nat→Nat→Nat) (s:St):Nat→St
 | 0=>s
 | 1=>⟨f 0 s.a,s.b,s.c⟩
 | 2=>⟨f 0 s.a,f 1 s.b,s.c⟩
 | _=>⟨f 0 s.a,f 1 s.b,f 2 s.c⟩
def roundP (p r:Nat) (s:St):St:=j8 p (yf (Ja p r) s 3)
def VD (p:Nat) (s:St):Nat→St
 | 0=>s
 | r+1=>roundP p r (VD p s r)
def UQ (p:Nat) (s:St):St:=VD p s 8
theorem St.cs_at (s:St) {i:Nat} (h:i<3):s.cs[i]?=some (.int .u64 (s.at_ i:Int)):=by
 rcases (show i=0∨i=1∨i=2 by omega) with rfl | rfl | rfl <;> rfl
theorem zFh (f:Nat→Nat→Nat) (s:St) {i:Nat} (h:i<3):(yf f s i).at_ i=s.at_ i:=by
 rcases (show i=0∨i=1∨i=2 by omega) with rfl | rfl | rfl <;> rfl
theorem zA5 (f:Nat→Nat→Nat) (s:St) {i:Nat} (h:i<3):(yf f s i).cs.setIfInBounds i (.int .u64 (f i (s.at_ i):Int))=(yf f s (i+1)).cs:=by
 rcases (show i=0∨i=1∨i=2 by omega) with rfl | rfl | rfl <;> simp [yf,St.cs,St.at_]
theorem zCd {p:Nat} (h:okP p=true):(ZJ p).1<18446744073709551616∧(ZJ p).2.2<18446744073709551616:=by
 rcases Xh h with rfl | rfl | rfl | rfl | rfl | rfl | rfl <;> exact ⟨by decide,by decide⟩
abbrev xT:=(Nat→Value)→(Nat→Prop)→World→Prop
structure Ks where
 i:Nat
 deps:List Nat
 eat:List Nat
def Y0 (l:List Oper) (j:Nat):Option Tmp:=(l[j]?).bind (·.dst)
def Xi (l:List Oper) (vs:Nat→Value) (a:Act) (js:List Nat):Act:=js.foldl (fun a j=>a.put (Y0 l j) (vs j)) a
def zC1:List (Nat × xT)→Nat→xT
 | [],_=>fun _ _ _=>True
 | (k,p) :: r,j=>if Nat.beq k j then p else zC1 r j
theorem zY (l:List Oper) (vs:Nat→Value) (d:Option Tmp) (v:Value):∀ (js:List Nat) (a:Act),(∀ j∈js,∀ t,d=some t→Y0 l j≠some t)→Xi l vs (a.put d v) js=(Xi l vs a js).put d v
 | [],_,_=>rfl
 | j :: js,a,h=>by
  show Xi l vs ((a.put d v).put (Y0 l j) (vs j)) js=_
  rw [Act.put_comm a v (vs j) (h j (by simp))]
  exact zY l vs d v js _ fun k hk=>h k (by simp [hk])
theorem G7 (l:List Oper) {vs us:Nat→Value}:∀ (js:List Nat) (a:Act),(∀ j∈js,vs j=us j)→Xi l vs a js=Xi l us a js
 | [],_,_=>rfl
 | j :: js,a,h=>by
  show Xi l vs (a.put (Y0 l j) (vs j)) js=Xi l us (a.put (Y0 l j) (us j)) js
  rw [h j (by simp)]
  exact G7 l js _ fun k hk=>h k (by simp [hk])
def upd (vs:Nat→Value) (i:Nat) (v:Value):Nat→Value:=fun j=>if j=i then v else vs j
theorem zB6 (vs:Nat→Value) (i:Nat) (v:Value):upd vs i v i=v:=if_pos rfl
theorem zC7 {vs:Nat→Value} {i j:Nat} {v:Value} (h:j≠i):upd vs i v j=vs j:=if_neg h
theorem xB (l:List Oper) (vs:Nat→Value) (i:Nat) (v:Value) (f f':Nat→Bool):∀ (js:List Nat) (a:Act),js.Nodup→i∈js→f i=false→f' i=true→(∀ j∈js,j≠i→f' j=f j) →
  (∀ j∈js,j≠i→∀ t,Y0 l i=some t→Y0 l j≠some t)→Xi l (upd vs i v) a (js.filter f')=(Xi l vs a (js.filter f)).put (Y0 l i) v
 | [],_,_,h,_,_,_,_=>by cases h
 | j :: js,a,hn,hi,h0,h1,h2,h3=>by
  obtain ⟨hj,hn'⟩:=List.nodup_cons.1 hn
  by_cases e:j=i
  ·subst e
   have hf:js.filter f'=js.filter f:=List.filter_congr fun k hk=>h2 k (by simp [hk]) (by rintro rfl;exact hj hk)
   rw [List.filter_cons_of_pos h1,List.filter_cons_of_neg (by rw [h0];exact Bool.false_ne_true),hf]
   show Xi l (upd vs j v) (a.put (Y0 l j) (upd vs j v j)) _=_
   rw [zB6,zY _ _ _ _ _ _ (fun k hk=>h3 k (by simp [(List.mem_filter.1 hk).1]) (by rintro rfl;exact hj (List.mem_filter.1 hk).1))]
   rw [G7 l _ a fun k hk=>zC7 (by rintro rfl;exact hj (List.mem_filter.1 hk).1)]
  ·have hi':i∈js:=by
    rcases List.mem_cons.1 hi with h | h
    ·exact absurd h.symm e
    ·exact h
   have key:=fun a=>xB l vs i v f f' js a hn' hi' h0 h1 (fun k hk=>h2 k (by simp [hk])) fun k hk=>h3 k (by simp [hk])
   have e2:=h2 j (by simp) e
   cases hfj:f j
   ·rw [List.filter_cons_of_neg (by rw [e2,hfj];exact Bool.false_ne_true),List.filter_cons_of_neg (by rw [hfj];exact Bool.false_ne_true)]
    exact key a
   ·rw [List.filter_cons_of_pos (by rw [e2,hfj]),List.filter_cons_of_pos hfj]
    show Xi l (upd vs i v) (a.put (Y0 l j) (upd vs i v j)) _=(Xi l vs (a.put (Y0 l j) (vs j)) _).put _ _
    rw [zC7 e]
    exact key _
theorem Jr (l:List Oper) (vs:Nat→Value) (t:Tmp):∀ (js:List Nat) (a:Act),(∀ j∈js,Y0 l j≠some t)→(Xi l vs a js).eval (.tmp t)=a.eval (.tmp t)
 | [],_,_=>rfl
 | j :: js,a,h=>by
  show (Xi l vs (a.put (Y0 l j) (vs j)) js).eval _=_
  rw [Jr l vs t js _ fun k hk=>h k (by simp [hk])]
  exact Act.eval_put fun d hd he=>h j (by simp) (by rw [hd];injection he with he;rw [he])
theorem Gr (l:List Oper) (vs:Nat→Value) (t:Tmp) (j:Nat) (hd:Y0 l j=some t):∀ (js:List Nat) (a:Act),j∈js→(∀ k∈js,k≠j→Y0 l k≠some t)→(Xi l vs a js).eval (.tmp t)=if t<a.tmps.size then vs j else undef
 | [],_,h,_=>by cases h
 | k :: js,a,h,hne=>by
  show (Xi l vs (a.put (Y0 l k) (vs k)) js).eval _=_
  by_cases hj:j∈js
  ·rw [Gr l vs t j hd js _ hj fun m hm=>hne m (by simp [hm])]
   have e:(a.put (Y0 l k) (vs k)).tmps.size=a.tmps.size:=by cases h:Y0 l k <;> simp [Act.put]
   rw [e]
  ·obtain rfl:j=k:=by
    rcases List.mem_cons.1 h with h | h
    ·exact h
    ·exact absurd h hj
   rw [Jr l vs t js _ fun m hm=>hne m (by simp [hm]) fun e=>hj (e ▸ hm),hd]
   by_cases ht:t<a.tmps.size <;> simp [Act.eval,Act.put,ht]
def Eff (B:Nat) (X:Nat→Prop) (w w':World):Prop:=w'.os=w.os∧w'.tape=w.tape∧w'.output=w.output∧w.heap.size≤w'.heap.size∧∀ b,b<B→¬X b→w'.heap[b]?=w.heap[b]?
theorem zFt {B:Nat} {X:Nat→Prop} {a b c:World} (h:Eff B X a b) (k:Eff B X b c):Eff B X a c :=
 ⟨k.1.trans h.1,k.2.1.trans h.2.1,k.2.2.1.trans h.2.2.1,Nat.le_trans h.2.2.2.1 k.2.2.2.1,fun g h1 h2=>(k.2.2.2.2 g h1 h2).trans (h.2.2.2.2 g h1 h2)⟩
theorem zIr (B:Nat) (X:Nat→Prop) (w:World):Eff B X w w:=⟨rfl,rfl,rfl,Nat.le_refl _,fun _ _ _=>rfl⟩
def Own (B:Nat) (X:Nat→Prop) (own:Nat→Nat) (w:World) (i:Nat):Nat→Prop:=fun b=>b<w.heap.size∧(B≤b∨X b)∧own b=i
def Ve (P:Program) (x:Sem Next) (w:World) (K:Value→World→Prop):Prop :=
 (∃ v w',x.run P w= .ok (.value v) w'∧K v w')∨(∃ w',x.run P w= .ok .skip w'∧K undef w')∨(∃ f vals,x.run P w= .ok (.enter f vals) w∧Calls P f vals w fun e w'=>∃ v,e= .returned v∧K v w')
theorem zKa {P:Program} {o:Oper} {a:Act} {w:World} {K:Act→World→Prop} {Q:Exit→Act→World→Prop} (h:Ve P (execOp a.eval o) w fun v w'=>K (a.put o.dst v) w'):o.wp P a w K Q:=by
 unfold Oper.wp
 rcases h with ⟨v,w',h1,h2⟩ | ⟨w',h1,h2⟩ | ⟨f,vals,h1,h2⟩
 ·rw [h1];exact h2
 ·rw [h1];exact h2
 ·rw [h1]
  refine Calls.mono h2 ?_
  rintro e w' ⟨v,rfl,h3⟩
  exact h3
theorem YH {P:Program} {x:Sem Next} {w w':World} {K:Value→World→Prop} {v:Value} (h:x.run P w= .ok (.value v) w') (hK:K v w'):Ve P x w K:=.inl ⟨v,w',h,hK⟩
def kG (l:List Oper) (i j:Nat):Bool:=match l[i]? with | some o=>(o.after.any fun e=>Region.binds .any e&&e.on == j) | none=>false
def GT (l:List Oper) (i:Nat):List Tmp:=match l[i]? with | some o=>(o.op.operands.toList.filterMap fun | .tmp t=>some t | _=>none) | none=>[]
def Gu (l:List Oper) (L0:Array Bool):List Nat→List Nat→Bool
 | _,[]=>true
 | pre,i :: rest=>(match l[i]? with | some o=>o.guard.isNone&&!L0.getD i true&&o.after.all (fun e=>!Region.binds .any e||L0.getD e.on false||(pre.contains e.on&&decide (e.on<l.length))) | none=>true)&&Gu l L0 (i :: pre) rest
def zEz (l:List Oper) (T:List Ks) (L0:Array Bool):Bool :=
 L0.size == l.length&&(T.map (·.i)).Nodup&&Gu l L0 [] (T.map (·.i)) &&
 (T.all fun s=>T.all fun t=>s.i == t.i||(Y0 l s.i).isNone||Y0 l s.i != Y0 l t.i) &&
 (T.all fun s=>(GT l s.i).all fun x=>T.all fun t=>Y0 l t.i != some x||s.deps.contains t.i) &&
 (T.all fun s=>s.deps.all fun j=>(T.any fun t=>t.i == j)&&(decide (l.length≤j)||kG l s.i j)) &&
 (T.all fun s=>s.eat.all fun j=>s.deps.contains j&&T.all fun t=>t.i == s.i||!t.deps.contains j) &&
 ((List.range l.length).all fun i=>L0.getD i true||(T.any fun t=>t.i == i)||((T.all fun t=>decide (l.length≤t.i)||kG l i t.i)||(List.range l.length).any fun j=>!L0.getD j true&&!(T.any fun t=>t.i == j)&&kG l i j))
def Task (P:Program) (l:List Oper) (p:Nat→xT) (B:Nat) (X:Nat→Prop) (w0:World) (a0:Act) (s:Ks):Prop :=
 ∀ (o:Oper),l[s.i]?=some o→∀ (w:World) (vs:Nat→Value) (F:Nat→Nat→Prop),Eff B X w0 w→(∀ j∈s.deps,p j vs (F j) w∧∀ b,F j b→b<w.heap.size∧(B≤b∨X b))→(∀ j k b,j≠k→F j b→¬F k b) →
  Ve P (execOp (Xi l vs a0 (s.deps.filter (·<l.length))).eval o) w fun v w'=>Eff B X w w'∧(∀ b,b<w.heap.size→(∀ j∈s.eat,¬F j b)→w'.heap[b]?=w.heap[b]?)∧p s.i (upd vs s.i v) (fun b=>(w.heap.size≤b∧b<w'.heap.size)∨∃ j∈s.eat,F j b) w'
def jU (p:Nat→xT) (B:Nat) (X:Nat→Prop) (w0:World) (s:Ks):Prop :=
 ∀ (vs us:Nat→Value) (F:Nat→Prop) (w w':World),Eff B X w0 w→Eff B X w w'→(∀ m∈s.i :: s.deps,us m=vs m)→(∀ b,F b→b<w.heap.size)→(∀ b,F b→w'.heap[b]?=w.heap[b]?)→p s.i vs F w→p s.i us F w'
section
variable {P:Program} {l:List Oper} {Q:Exit→Act→World→Prop} {R:World→World→Prop} {T:List Ks} {p:Nat→xT} {B:Nat} {X:Nat→Prop} {w0:World} {a0:Act} {L0:Array Bool}
structure zE7 (l:List Oper) (T:List Ks) (p:Nat→xT) (B:Nat) (X:Nat→Prop) (w0:World) (a0:Act) (L0 L:Array Bool) (vs:Nat→Value) (own:Nat→Nat) (a:Act) (w:World):Prop where
 size:L.size=l.length
 old:∀ i:Nat,L0.getD i true=true→L.getD i true=true
 new:∀ i:Nat,L.getD i true=true→L0.getD i true=true∨∃ t∈T,t.i=i
 eff:Eff B X w0 w
 act:a=Xi l vs a0 ((T.map (·.i)).filter fun j=>L.getD j true&&!L0.getD j true)
 facts:∀ s∈T,L.getD s.i true=true→(∀ k∈T,s.i∈k.eat→L.getD k.i true=false)→p s.i vs (Own B X own w s.i) w
theorem jt {i j:Nat} (h:kG l i j=true):∃ o,l[i]?=some o∧∃ e∈o.after,Region.binds .any e=true∧e.on=j:=by
 unfold kG at h
 split at h
 ·rename_i o ho
  simp only [Array.any_eq_true] at h
  obtain ⟨k,hk,he⟩:=h
  simp only [Bool.and_eq_true,beq_iff_eq] at he
  exact ⟨o,ho,o.after[k],Array.getElem_mem hk,he.1,he.2⟩
 ·cases h
theorem Vu:∀ (js pre:List Nat),Gu l L0 pre js=true→∀ i∈js,∀ o,l[i]?=some o→o.guard=none∧L0.getD i true=false
 | [],_,_,i,hi,_,_=>by cases hi
 | j :: js,pre,h,i,hi,o,ho=>by
  unfold Gu at h
  rw [Bool.and_eq_true] at h
  rcases List.mem_cons.1 hi with rfl | hi
  ·have h1:=h.1
   rw [ho] at h1
   simp only [Bool.and_eq_true,Bool.not_eq_true',Option.isNone_iff_eq_none] at h1
   exact ⟨h1.1.1,h1.1.2⟩
  ·exact Vu js _ h.2 i hi o ho
theorem GY {L:Array Bool} (hs:L.size=l.length) (h0:∀ i:Nat,L0.getD i true=true→L.getD i true=true) (hsz:L0.size=l.length):∀ (js pre:List Nat),Gu l L0 pre js=true→(∀ i∈pre,L.getD i true=true)→(∃ i∈js,L.getD i true=false)→∃ i∈js,i∈Region.ready .any l.toArray L
 | [],_,_,_,⟨i,hi,_⟩=>by cases hi
 | j :: js,pre,h,hp,hx=>by
  unfold Gu at h
  rw [Bool.and_eq_true] at h
  cases hj:L.getD j true
  ·refine ⟨j,by simp,?_⟩
   have hlt:j<l.length:=by
    rcases Nat.lt_or_ge j l.length with h | h
    ·exact h
    ·rw [←hs] at h
     simp [Nat.not_lt.2 h] at hj
   have ho:l[j]?=some l[j]:=List.getElem?_eq_getElem hlt
   have h1:=h.1
   rw [ho] at h1
   simp only [Bool.and_eq_true] at h1
   have h2:=h1.2
   rw [Array.all_eq_true] at h2
   refine mem_ready.2 ⟨hj,l[j],by rw [List.getElem?_toArray];exact ho,fun e he hb=>?_⟩
   obtain ⟨k,hk,rfl⟩:=Array.getElem_of_mem he
   have h3:=h2 k hk
   rw [hb] at h3
   simp only [Bool.not_true,Bool.false_or,Bool.or_eq_true] at h3
   have key:∀ n:Nat,n<l.length→L.getD n true=true→L.getD n false=true:=fun n hn h=>by
    rw [←hs] at hn
    simpa [hn] using h
   rcases h3 with h3 | h3
   ·have hn:l.toArray[j].after[k].on<l.length:=by
     rcases Nat.lt_or_ge (l[j].after[k].on) l.length with h | h
     ·exact h
     ·rw [←hsz] at h
      have h3':L0.getD (l[j].after[k].on) false=true:=h3
      simp [Nat.not_lt.2 h] at h3'
    refine key _ hn (h0 _ ?_)
    rw [←hsz] at hn
    have h3':L0.getD (l[j].after[k].on) false=true:=h3
    have hn':l[j].after[k].on<L0.size:=hn
    simp [hn'] at h3' ⊢
    exact h3'
   ·rw [Bool.and_eq_true,decide_eq_true_eq,List.contains_iff_mem] at h3
    exact key _ h3.2 (hp _ h3.1)
  ·obtain ⟨i,hi,h'⟩:=hx
   have hne:i∈js:=by
    rcases List.mem_cons.1 hi with rfl | hi
    ·rw [hj] at h';cases h'
    ·exact hi
   obtain ⟨k,hk,hr⟩:=GY hs h0 hsz js (j :: pre) h.2 (by intro i hi;rcases List.mem_cons.1 hi with rfl | hi;exact hj;exact hp i hi) ⟨i,hne,h'⟩
   exact ⟨k,by simp [hk],hr⟩
theorem jH {P:Program} {x:Sem Next} {w:World} {K K':Value→World→Prop} (h:∀ v w',K v w'→K' v w') (hd:Ve P x w K):Ve P x w K':=by
 rcases hd with ⟨v,w',h1,h2⟩ | ⟨w',h1,h2⟩ | ⟨f,vals,h1,h2⟩
 ·exact .inl ⟨v,w',h1,h _ _ h2⟩
 ·exact .inr (.inl ⟨w',h1,h _ _ h2⟩)
 ·exact .inr (.inr ⟨f,vals,h1,h2.mono fun e w' ⟨v,he,hk⟩=>⟨v,he,h _ _ hk⟩⟩)
structure zEx (l:List Oper) (T:List Ks) (L0:Array Bool):Prop where
 size:L0.size=l.length
 nodup:(T.map (·.i)).Nodup
 topo:Gu l L0 [] (T.map (·.i))=true
 dst:∀ s∈T,∀ t∈T,s.i≠t.i→∀ x,Y0 l s.i=some x→Y0 l t.i≠some x
 opers:∀ s∈T,∀ x∈GT l s.i,∀ t∈T,Y0 l t.i=some x→t.i∈s.deps
 deps:∀ s∈T,∀ j∈s.deps,(∃ t∈T,t.i=j)∧(l.length≤j∨kG l s.i j=true)
 eat:∀ s∈T,∀ j∈s.eat,j∈s.deps∧∀ t∈T,t.i≠s.i→j ∉ t.deps
 tail:∀ i,i<l.length→L0.getD i true=false→(∀ t∈T,t.i≠i)→(∀ t∈T,l.length≤t.i∨kG l i t.i=true)∨∃ j,j<l.length∧L0.getD j true=false∧(∀ t∈T,t.i≠j)∧kG l i j=true
theorem xE (h:zEz l T L0=true):zEx l T L0:=by
 unfold zEz at h
 simp only [Bool.and_eq_true,List.all_eq_true,List.any_eq_true,Bool.or_eq_true,beq_iff_eq,decide_eq_true_eq,List.contains_iff_mem,bne_iff_ne,ne_eq,Bool.not_eq_true',Option.isNone_iff_eq_none] at h
 obtain ⟨⟨⟨⟨⟨⟨⟨h1,h2⟩,h3⟩,h4⟩,h5⟩,h6⟩,h7⟩,h8⟩:=h
 refine ⟨h1,h2,h3,?_,?_,?_,?_,?_⟩
 ·intro s hs t ht hne x hx
  rcases h4 s hs t ht with (e | e) | e
  ·exact absurd e hne
  ·rw [e] at hx;cases hx
  ·rw [hx] at e;exact fun e'=>e e'.symm
 ·intro s hs x hx t ht e
  rcases h5 s hs x hx t ht with h | h
  ·exact absurd e h
  ·exact h
 ·intro s hs j hj
  exact h6 s hs j hj
 ·intro s hs j hj
  obtain ⟨h,h'⟩:=h7 s hs j hj
  refine ⟨h,fun t ht hne hd=>?_⟩
  rcases h' t ht with e | e
  ·exact hne e
  ·rw [←Bool.not_eq_true,List.contains_iff_mem] at e
   exact e hd
 ·intro i hi h0 hT
  rcases h8 i (List.mem_range.2 hi) with (h | ⟨t,ht,e⟩) | h | ⟨j,hj,h⟩
  ·rw [h0] at h;cases h
  ·exact absurd e (hT t ht)
  ·exact .inl h
  ·refine .inr ⟨j,List.mem_range.1 hj,h.1.1,fun t ht e=>?_,h.2⟩
   have:=h.1.2
   rw [←Bool.not_eq_true,List.any_eq_true] at this
   exact this ⟨t,ht,by rw [beq_iff_eq];exact e⟩
theorem zDl {L:Array Bool} {i:Nat} (h:i<L.size) (a b:Bool):L.getD i a=L.getD i b:=by simp [h]
theorem XA {L:Array Bool} {i j:Nat}:(L.setIfInBounds i true).getD j true=true↔L.getD j true=true∨j=i:=by
 by_cases e:i=j
 ·subst e
  by_cases h:i<L.size <;> simp [h]
 ·rw [getD_set_ne true e]
  exact ⟨.inl,fun h=>h.resolve_right fun h=>e h.symm⟩
theorem yd {L:Array Bool} {i j:Nat} (h:(L.setIfInBounds i true).getD j true=false):L.getD j true=false:=by
 cases hj:L.getD j true
 ·rfl
 ·have:=XA (i:=i).2 (.inl hj)
  rw [h] at this;cases this
def Ka (own:Nat→Nat) (w:World) (s:Ks):Nat→Nat:=fun b=>if b<w.heap.size∧own b ∉ s.eat then own b else s.i
structure kj (l:List Oper) (T:List Ks) (L:Array Bool) (own:Nat→Nat) (w:World):Prop where
 own:∀ b,b<w.heap.size→L.getD (own b) true=true
 deps:∀ t∈T,L.getD t.i true=true→∀ j∈t.deps,L.getD j true=true
theorem zKz (ok:zEx l T L0) {L:Array Bool} {vs:Nat→Value} {own:Nat→Nat} {a:Act} {w:World} (hsel:Region.noSelect l.toArray=true) (I:zE7 l T p B X w0 a0 L0 L vs own a w) {s:Ks} (hs:s∈T) {o:Oper} (ho:l[s.i]?=some o) (hd:∀ j∈s.deps,L.getD j true=true) :
  execOp a.eval o=execOp (Xi l vs a0 (s.deps.filter (·<l.length))).eval o:=by
 refine execOp_congr o (fun cs b=>Region.noSelect_spec hsel s.i o cs b (by rw [List.getElem?_toArray];exact ho)) fun x hx=>?_
 cases x with
 | tmp t =>
  have ht:t∈GT l s.i:=by
   unfold GT
   rw [ho]
   exact List.mem_filterMap.2 ⟨.tmp t,by simpa using hx,rfl⟩
  have hTs:∀ j∈T.map (·.i),Y0 l j=some t→j∈s.deps:=fun j hj e=>by
   obtain ⟨u,hu,rfl⟩:=List.mem_map.1 hj
   exact ok.opers s hs t ht u hu e
  have hdd:∀ j∈s.deps,j∈T.map (·.i):=fun j hj=>by
   obtain ⟨⟨u,hu,e⟩,-⟩:=ok.deps s hs j hj
   exact List.mem_map.2 ⟨u,hu,e⟩
  have huni:∀ j∈T.map (·.i),∀ k∈T.map (·.i),k≠j→Y0 l j=some t→Y0 l k≠some t:=fun j hj k hk hne e=>by
   obtain ⟨u,hu,rfl⟩:=List.mem_map.1 hj
   obtain ⟨v,hv,rfl⟩:=List.mem_map.1 hk
   exact ok.dst u hu v hv (fun e=>hne e.symm) t e
  have hlen:∀ j,Y0 l j=some t→j<l.length:=fun j e=>by
   rcases Nat.lt_or_ge j l.length with h | h
   ·exact h
   ·unfold Y0 at e;rw [List.getElem?_eq_none h] at e;cases e
  rw [I.act]
  by_cases hex:∃ j∈s.deps,Y0 l j=some t
  ·obtain ⟨j,hj,e⟩:=hex
   have hjT:=hdd j hj
   have h0:L0.getD j true=false:=by
    obtain ⟨u,hu,rfl⟩:=List.mem_map.1 hjT
    exact (Vu _ _ ok.topo _ hjT _ (List.getElem?_eq_getElem (hlen _ e))).2
   rw [Gr l vs t j e _ _ (List.mem_filter.2 ⟨hjT,by rw [hd j hj,h0];rfl⟩) fun k hk hne=>huni j hjT k (List.mem_filter.1 hk).1 hne e,
    Gr l vs t j e _ _ (List.mem_filter.2 ⟨hj,by simpa using hlen j e⟩) fun k hk hne=>huni j hjT k (hdd k (List.mem_filter.1 hk).1) hne e]
  ·rw [Jr l vs t _ _ fun j hj e=>hex ⟨j,hTs j (List.mem_filter.1 hj).1 e,e⟩,Jr l vs t _ _ fun j hj e=>hex ⟨j,(List.mem_filter.1 hj).1,e⟩]
 | _=>rfl
theorem zHn (ok:zEx l T L0) {L:Array Bool} {vs:Nat→Value} {own:Nat→Nat} {a:Act} {w:World} (I:zE7 l T p B X w0 a0 L0 L vs own a w) (J:kj l T L own w) (hB:B≤w0.heap.size)
  (hst:∀ s∈T,jU p B X w0 s) {s:Ks} (hs:s∈T) {o:Oper} (ho:l[s.i]?=some o) (hL:L.getD s.i true=false) (hd:∀ j∈s.deps,L.getD j true=true) {v:Value} {w':World}
  (he:Eff B X w w') (hk:∀ b,b<w.heap.size→(∀ j∈s.eat,¬Own B X own w j b)→w'.heap[b]?=w.heap[b]?)
  (hp:p s.i (upd vs s.i v) (fun b=>(w.heap.size≤b∧b<w'.heap.size)∨∃ j∈s.eat,Own B X own w j b) w') :
  zE7 l T p B X w0 a0 L0 (L.setIfInBounds s.i true) (upd vs s.i v) (Ka own w s) (a.put o.dst v) w'∧kj l T (L.setIfInBounds s.i true) (Ka own w s) w':=by
 have hsi:s.i<l.length:=(List.getElem?_eq_some_iff.1 ho).1
 have hoi:Y0 l s.i=o.dst:=by simp [Y0,ho]
 have hsT:s.i∈T.map (·.i):=List.mem_map.2 ⟨s,hs,rfl⟩
 have hL0:L0.getD s.i true=false:=(Vu _ _ ok.topo _ hsT _ ho).2
 have hne:∀ b,b<w.heap.size→own b≠s.i:=fun b hb e=>by
  have:=J.own b hb
  rw [e,hL] at this
  cases this
 have huniq:∀ t∈T,t.i=s.i→t=s:=fun t ht e=>by
  have hn:=ok.nodup
  obtain ⟨i,hi,rfl⟩:=List.getElem_of_mem ht
  obtain ⟨j,hj,rfl⟩:=List.getElem_of_mem hs
  have:=(List.getElem_inj (h₀:=by simpa using hi) (h₁:=by simpa using hj) hn).1 (by simpa using e)
  subst this
  rfl
 refine ⟨⟨by simp [I.size],fun i h=>XA.2 (.inl (I.old i h)),fun i h=>?_,zFt I.eff he,?_,?_⟩,⟨fun b hb=>?_,fun t ht h j hj=>?_⟩⟩
 ·rcases XA.1 h with h | rfl
  ·exact I.new i h
  ·exact .inr ⟨s,hs,rfl⟩
 ·rw [I.act,←hoi]
  refine (xB l vs s.i v _ _ _ a0 ok.nodup hsT (by rw [hL];rfl) (by rw [XA.2 (.inr rfl),hL0];rfl) (fun j _ hne=>?_) (fun j hj hne t e=>?_)).symm
  ·have:(L.setIfInBounds s.i true).getD j true=L.getD j true:=getD_set_ne true fun e=>hne e.symm
   rw [this]
  ·obtain ⟨u,hu,rfl⟩:=List.mem_map.1 hj
   exact ok.dst s hs u hu (fun e=>hne e.symm) t e
 ·intro t ht hLt hea
  by_cases e:t.i=s.i
  ·obtain rfl:=huniq t ht e
   have e2:Own B X (Ka own w t) w' t.i=(fun b=>(w.heap.size≤b∧b<w'.heap.size)∨∃ j∈t.eat,Own B X own w j b):=by
    funext b
    apply propext
    unfold Own Ka
    constructor
    ·rintro ⟨h1,h2,h3⟩
     rcases Nat.lt_or_ge b w.heap.size with h | h
     ·by_cases hm:own b∈t.eat
      ·exact .inr ⟨own b,hm,h,h2,rfl⟩
      ·rw [if_pos ⟨h,hm⟩] at h3
       exact absurd h3 (hne b h)
     ·exact .inl ⟨h,h1⟩
    ·rintro (⟨h1,h2⟩ | ⟨j,hj,h1,h2,rfl⟩)
     ·exact ⟨h2, .inl (Nat.le_trans hB (Nat.le_trans I.eff.2.2.2.1 h1)),if_neg fun h=>by omega⟩
     ·exact ⟨Nat.lt_of_lt_of_le h1 he.2.2.2.1,h2,if_neg fun h=>h.2 hj⟩
   rw [e2]
   exact hp
  ·have hLt':L.getD t.i true=true:=(XA.1 hLt).resolve_right e
   have hte:t.i ∉ s.eat:=fun h=>by
    have:=hea s hs h
    rw [XA.2 (.inr rfl)] at this
    cases this
   have hf:=I.facts t ht hLt' fun k hk h=>yd (hea k hk h)
   have e2:Own B X (Ka own w s) w' t.i=Own B X own w t.i:=by
    funext b
    apply propext
    unfold Own Ka
    constructor
    ·rintro ⟨h1,h2,h3⟩
     by_cases hm:b<w.heap.size∧own b ∉ s.eat
     ·rw [if_pos hm] at h3
      exact ⟨hm.1,h2,h3⟩
     ·rw [if_neg hm] at h3
      exact absurd h3.symm e
    ·rintro ⟨h1,h2,h3⟩
     rw [←h3] at hte
     exact ⟨Nat.lt_of_lt_of_le h1 he.2.2.2.1,h2,by rw [if_pos ⟨h1,hte⟩];exact h3⟩
   rw [e2]
   refine hst t ht vs _ _ w w' I.eff he (fun m hm=>zC7 fun e=>?_) (fun b hb=>hb.1) (fun b hb=>?_) hf
   ·subst e
    rcases List.mem_cons.1 hm with h | h
    ·exact ‹¬t.i=s.i› h.symm
    ·have:=J.deps t ht hLt' _ h
     rw [hL] at this
     cases this
   ·refine hk b hb.1 fun j hj hO=>?_
    have:=hO.2.2
    rw [hb.2.2] at this
    exact hte (this ▸ hj)
 ·unfold Ka
  split
  ·rename_i h
   exact XA.2 (.inl (J.own b h.1))
  ·exact XA.2 (.inr rfl)
 ·rcases XA.1 h with h | h
  ·exact XA.2 (.inl (J.deps t ht h j hj))
  ·obtain rfl:=huniq t ht h
   exact XA.2 (.inl (hd j hj))
def Km (T:List Ks) (L0:Array Bool):Array Bool:=T.foldl (fun L s=>L.setIfInBounds s.i true) L0
theorem yI:∀ (T:List Ks) (L0:Array Bool) (j:Nat),(Km T L0).getD j true=true↔L0.getD j true=true∨∃ t∈T,t.i=j
 | [],L0,j=>by simp [Km]
 | s :: T,L0,j=>by
  show (Km T (L0.setIfInBounds s.i true)).getD j true=true↔_
  rw [yI T,XA]
  constructor
  ·rintro ((h | rfl) | ⟨t,ht,e⟩)
   ·exact .inl h
   ·exact .inr ⟨s,by simp,rfl⟩
   ·exact .inr ⟨t,by simp [ht],e⟩
  ·rintro (h | ⟨t,ht,e⟩)
   ·exact .inl (.inl h)
   ·rcases List.mem_cons.1 ht with rfl | ht
    ·exact .inl (.inr e.symm)
    ·exact .inr ⟨t,ht,e⟩
theorem xQ:∀ (T:List Ks) (L0:Array Bool),(Km T L0).size=L0.size
 | [],_=>rfl
 | s :: T,L0=>by
  show (Km T (L0.setIfInBounds s.i true)).size=_
  rw [xQ T];simp
theorem zKh (M:YO R) (hsel:Region.noSelect l.toArray=true) (ok:zEx l T L0) (hB:B≤w0.heap.size) (hR:∀ w',Eff B X w0 w'→R w0 w') (hst:∀ s∈T,jU p B X w0 s) (htask:∀ s∈T,Task P l p B X w0 a0 s) {fr:Nat}
  (hfin:∀ (w:World) (vs:Nat→Value) (F:Nat→Nat→Prop),Eff B X w0 w→(∀ s∈T,(∀ k∈T,s.i ∉ k.eat)→p s.i vs (F s.i) w∧∀ b,F s.i b→b<w.heap.size∧(B≤b∨X b))→(∀ j k b,j≠k→F j b→¬F k b) →
   wpR P l.toArray Q R fr (Km T L0) (Xi l vs a0 ((T.map (·.i)).filter (·<l.length))) w) :
  ∀ (n:Nat) (L:Array Bool) (vs:Nat→Value) (own:Nat→Nat) (a:Act) (w:World),(T.filter fun s=>!L.getD s.i true).length=n→zE7 l T p B X w0 a0 L0 L vs own a w→kj l T L own w→wpAnyH P .any l.toArray Q (R w0) (n+fr) L a w:=by
 intro n
 induction n with
 | zero =>
  intro L vs own a w hn I J
  have hup:∀ t∈T,L.getD t.i true=true:=fun t ht=>by
   have:=List.eq_nil_of_length_eq_zero hn
   rw [List.filter_eq_nil_iff] at this
   simpa using this t ht
  have hLe:L=Km T L0:=by
   apply Array.ext
   ·rw [xQ,I.size,ok.size]
   ·intro i h1 h2
    have e1:L.getD i true=L[i]:=by simp [h1]
    have e2:(Km T L0).getD i true=(Km T L0)[i]:=by simp [h2]
    rw [←e1,←e2,Bool.eq_iff_iff,yI]
    constructor
    ·exact I.new i
    ·rintro (h | ⟨t,ht,rfl⟩)
     ·exact I.old i h
     ·exact hup t ht
  have hact:a=Xi l vs a0 ((T.map (·.i)).filter (·<l.length)):=by
   rw [I.act]
   congr 1
   refine List.filter_congr fun j hj=>?_
   obtain ⟨t,ht,rfl⟩:=List.mem_map.1 hj
   rw [hup t ht,Bool.true_and]
   rcases Nat.lt_or_ge t.i l.length with h | h
   ·rw [(Vu _ _ ok.topo _ hj _ (List.getElem?_eq_getElem h)).2]
    simp [h]
   ·have:L0.getD t.i true=true:=by rw [←ok.size] at h;simp [Nat.not_lt.2 h]
    rw [this]
    simp [Nat.not_lt.2 h]
  have hf:=hfin w vs (Own B X own w) I.eff (fun s hs hne=>⟨I.facts s hs (hup s hs) fun k hk h=>absurd h (hne k hk),fun b hb=>⟨hb.1,hb.2.1⟩⟩) (fun j k b hne h1 h2=>hne (h1.2.2.symm.trans h2.2.2))
  rw [Nat.zero_add,hLe,hact]
  exact Ke (fun w2 h2=>M.trans _ _ _ (hR _ I.eff) h2) _ _ _ _ hf
 | succ n ih =>
  intro L vs own a w hn I J
  have hex:∃ s∈T,L.getD s.i true=false:=by
   cases h:T.filter (fun s=>!L.getD s.i true) with
   | nil=>rw [h] at hn;cases hn
   | cons s r =>
    have:s∈T.filter (fun s=>!L.getD s.i true):=by rw [h];simp
    obtain ⟨h1,h2⟩:=List.mem_filter.1 this
    exact ⟨s,h1,by simpa using h2⟩
  rw [show n+1+fr=(n+fr)+1 by omega]
  refine ⟨fun h=>?_,fun i hi=>?_⟩
  ·obtain ⟨s,hs,h'⟩:=hex
   obtain ⟨i,-,hi⟩:=GY I.size I.old ok.size _ _ ok.topo (by simp) ⟨s.i,List.mem_map.2 ⟨s,hs,rfl⟩,h'⟩
   rw [h] at hi
   cases hi
  ·obtain ⟨hLi,o,ho,hall⟩:=mem_ready.1 hi
   rw [List.getElem?_toArray] at ho
   have hil:i<l.length:=(List.getElem?_eq_some_iff.1 ho).1
   have hedge:∀ j,kG l i j=true→L.getD j true=true:=fun j h=>by
    obtain ⟨o',ho',e,he,hb,rfl⟩:=jt h
    rw [ho] at ho'
    obtain rfl:=Option.some.inj ho'
    have:=hall e he hb
    rcases Nat.lt_or_ge e.on L.size with h | h
    ·rw [zDl h true false];exact this
    ·simp [Nat.not_lt.2 h]
   have hT:∃ s∈T,s.i=i:=by
    refine Classical.byContradiction fun hno=>?_
    have h0:L0.getD i true=false:=by
     cases h:L0.getD i true
     ·rfl
     ·have:=I.old i h;rw [hLi] at this;cases this
    rcases ok.tail i hil h0 (fun t ht e=>hno ⟨t,ht,e⟩) with h | ⟨j,hj,h1,h2,h3⟩
    ·obtain ⟨s,hs,h'⟩:=hex
     rcases h s hs with h | h
     ·rw [←I.size] at h
      simp [Nat.not_lt.2 h] at h'
     ·rw [hedge _ h] at h';cases h'
    ·have h4:=hedge _ h3
     rcases I.new j h4 with h | ⟨t,ht,e⟩
     ·rw [h1] at h;cases h
     ·exact h2 t ht e
   obtain ⟨s,hs,rfl⟩:=hT
   have hd:∀ j∈s.deps,L.getD j true=true:=fun j hj=>by
    rcases (ok.deps s hs j hj).2 with h | h
    ·rw [←I.size] at h;simp [Nat.not_lt.2 h]
    ·exact hedge _ h
   have hg:=(Vu _ _ ok.topo s.i (List.mem_map.2 ⟨s,hs,rfl⟩) o ho).1
   unfold wpOp
   rw [List.getElem?_toArray,ho]
   simp only [Region.wanted,hg,if_true]
   refine .inl (zKa ?_)
   rw [zKz ok hsel I hs ho hd]
   refine jH ?_ (htask s hs o ho w vs (Own B X own w) I.eff (fun j hj=>⟨?_,fun b hb=>⟨hb.1,hb.2.1⟩⟩) fun j k b hne h1 h2=>hne (h1.2.2.symm.trans h2.2.2))
   ·rintro v w' ⟨he,hk,hp⟩
    obtain ⟨I',J'⟩:=zHn ok I J hB hst hs ho hLi hd he hk hp
    refine ⟨hR _ I'.eff,ih _ _ _ _ _ ?_ I' J'⟩
    have e1:(T.filter fun t=>!(L.setIfInBounds s.i true).getD t.i true)=(T.filter fun t=>!L.getD t.i true).filter fun t=>t.i != s.i:=by
     rw [List.filter_filter]
     refine List.filter_congr fun t ht=>?_
     rw [Bool.eq_iff_iff]
     simp only [Bool.not_eq_true',Bool.and_eq_true,bne_iff_ne,ne_eq]
     constructor
     ·intro h
      refine ⟨fun e=>?_,yd h⟩
      rw [XA.2 (.inr e)] at h;cases h
     ·rintro ⟨h1,h2⟩
      cases h:(L.setIfInBounds s.i true).getD t.i true
      ·rfl
      ·rcases XA.1 h with h | h
       ·rw [h2] at h;cases h
       ·exact absurd h h1
    rw [e1]
    have:=nodup_drop (T.filter fun t=>!L.getD t.i true) s.i ((List.Sublist.map _ List.filter_sublist).nodup ok.nodup) ⟨s,List.mem_filter.2 ⟨hs,by rw [hLi];rfl⟩,rfl⟩
    omega
   ·obtain ⟨⟨t,ht,rfl⟩,-⟩:=ok.deps s hs j hj
    refine I.facts t ht (hd _ hj) fun k hk h=>?_
    by_cases e:k.i=s.i
    ·rw [e];exact hLi
    ·exact absurd hj ((ok.eat k hk _ h).2 s hs fun e'=>e e'.symm)
where
 nodup_drop:∀ (T:List Ks) (i:Nat),(T.map (·.i)).Nodup→(∃ s∈T,s.i=i)→(T.filter fun t=>t.i != i).length+1=T.length
  | [],_,_,⟨_,h,_⟩=>by cases h
  | t :: T,i,hn,⟨s,hs,e⟩=>by
   obtain ⟨h1,h2⟩:=List.nodup_cons.1 hn
   by_cases ht:t.i=i
   ·rw [List.filter_cons_of_neg (by simp [ht])]
    have:T.filter (fun t=>t.i != i)=T:=List.filter_eq_self.2 fun u hu=>by
     rw [bne_iff_ne]
     intro e'
     exact h1 (List.mem_map.2 ⟨u,hu,e'.trans ht.symm⟩)
    rw [this];rfl
   ·rw [List.filter_cons_of_pos (by simpa using ht)]
    have:=nodup_drop T i h2 (by
     rcases List.mem_cons.1 hs with rfl | hs
     ·exact absurd e ht
     ·exact ⟨s,hs,e⟩)
    simp only [List.length_cons]
    omega
theorem zJo (M:YO R) (hsel:Region.noSelect l.toArray=true) (hok:zEz l T L0=true) (hB:B≤w0.heap.size) (hR:∀ w',Eff B X w0 w'→R w0 w') (vs0:Nat→Value) (own0:Nat→Nat) (hown0:∀ b,b<w0.heap.size→l.length≤own0 b)
  (h0:∀ s∈T,l.length≤s.i→p s.i vs0 (Own B X own0 w0 s.i) w0) (hst:∀ s∈T,jU p B X w0 s) (htask:∀ s∈T,Task P l p B X w0 a0 s) {fr n:Nat} (hn:(T.filter (fun s=>!L0.getD s.i true)).length+fr=n)
  (hfin:∀ (w:World) (vs:Nat→Value) (F:Nat→Nat→Prop),Eff B X w0 w→(∀ s∈T,(∀ k∈T,s.i ∉ k.eat)→p s.i vs (F s.i) w∧∀ b,F s.i b→b<w.heap.size∧(B≤b∨X b))→(∀ j k b,j≠k→F j b→¬F k b) →
   wpR P l.toArray Q R fr (Km T L0) (Xi l vs a0 ((T.map (·.i)).filter (·<l.length))) w):wpR P l.toArray Q R n L0 a0 w0:=by
 have ok:=xE hok
 have hge:∀ j,l.length≤j→L0.getD j true=true:=fun j h=>by rw [←ok.size] at h;simp [Nat.not_lt.2 h]
 have hlow:∀ s∈T,L0.getD s.i true=true→l.length≤s.i:=fun s hs h=>by
  rcases Nat.lt_or_ge s.i l.length with h1 | h1
  ·rw [(Vu _ _ ok.topo _ (List.mem_map.2 ⟨s,hs,rfl⟩) _ (List.getElem?_eq_getElem h1)).2] at h;cases h
  ·exact h1
 subst hn
 refine zKh M hsel ok hB hR hst htask hfin _ L0 vs0 own0 a0 w0 rfl ⟨ok.size,fun _ h=>h,fun _ h=>.inl h,zIr _ _ _,?_,fun s hs h _=>h0 s hs (hlow s hs h)⟩ ⟨fun b hb=>hge _ (hown0 b hb),fun t ht h j hj=>?_⟩
 ·have:(T.map (·.i)).filter (fun j=>L0.getD j true&&!L0.getD j true)=[]:=List.filter_eq_nil_iff.2 fun j _=>by cases L0.getD j true <;> simp
  rw [this]
  rfl
 ·rcases (ok.deps t ht j hj).2 with h' | h'
  ·exact hge j h'
  ·obtain ⟨o,ho,-⟩:=jt h'
   have:=hlow t ht h
   rw [List.getElem?_eq_none this] at ho
   cases ho
end
end Go.Proofs.YtakjnmojigechaaGreat
