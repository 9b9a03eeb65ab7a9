/- A part of the proof. No condition. -/
import Derived.Test.YtbiieaiahdihnaaProg
import Derived.Test.YtbiieaiahdihnaaOP4

namespace Go.Proofs.Ytbiieaiahdihnaa
open Go.RowKit
def ZS (bars:List Nat) (listed:Array Bool):Bool:=bars.any fun b=>listed.getD b true
theorem YG {bars:List Nat} {listed:Array Bool} {j:Nat} (h:j ∉ bars):ZS bars (listed.setIfInBounds j true)=ZS bars listed:=by
 unfold ZS
 induction bars with
 | nil=>rfl
 | cons b r ih =>
  simp only [List.mem_cons,not_or] at h
  simp only [List.any_cons]
  rw [getD_set_ne true h.1,ih h.2]
section
variable {P:Program} {ops:Array Oper} {Q:Exit→Act→World→Prop} {bars:List Nat} {S:World→Prop}
def XF (P:Program) (ops:Array Oper) (Q:Exit→Act→World→Prop) (bars:List Nat) (S:World→Prop):Nat→Array Bool→Act→World→Prop
 | 0,listed,a,w=>Region.ready .any ops listed=[]∧Q .normal a w
 | fuel+1,listed,a,w =>
  (Region.ready .any ops listed=[]→Q .normal a w) ∧
  ∀ i∈Region.ready .any ops listed,wpOp P ops Q i (fun a' w'=>(ZS bars (listed.setIfInBounds i true)=false→S w')∧XF P ops Q bars S fuel (listed.setIfInBounds i true) a' w') a w
theorem Vt:∀ (fuel:Nat) (listed:Array Bool) (a:Act) (w:World),XF P ops Q bars S fuel listed a w→wpAny P .any ops Q fuel listed a w
 | 0,_,_,_,h=>h
 | fuel+1,_,_,_,h=>⟨h.1,fun i hi=>wpOp_mono (fun a' w' h'=>Vt fuel _ a' w' h'.2) (h.2 i hi)⟩
theorem Vj {S':World→Prop} (hS:∀ w,S' w→S w):∀ (fuel:Nat) (listed:Array Bool) (a:Act) (w:World),XF P ops Q bars S' fuel listed a w→XF P ops Q bars S fuel listed a w
 | 0,_,_,_,h=>h
 | fuel+1,_,_,_,h=>⟨h.1,fun i hi=>wpOp_mono (fun a' w' h'=>⟨fun hp=>hS _ (h'.1 hp),Vj hS fuel _ a' w' h'.2⟩) (h.2 i hi)⟩
theorem Xj {listed:Array Bool} {i:Nat} (h:ZS bars listed=true):ZS bars (listed.setIfInBounds i true)=true:=by
 unfold ZS at *
 rw [List.any_eq_true] at *
 obtain ⟨b,hb,h1⟩:=h
 refine ⟨b,hb,?_⟩
 by_cases e:i=b
 ·subst e
  rcases Nat.lt_or_ge i listed.size with h2 | h2
  ·simp [h2]
  ·simp [Nat.not_lt.2 h2]
 ·rw [getD_set_ne true e];exact h1
theorem XK {S':World→Prop}:∀ (fuel:Nat) (listed:Array Bool) (a:Act) (w:World),ZS bars listed=true→XF P ops Q bars S' fuel listed a w→XF P ops Q bars S fuel listed a w
 | 0,_,_,_,_,h=>h
 | fuel+1,_,_,_,hp,h=>⟨h.1,fun i hi=>wpOp_mono (fun a' w' h'=>⟨fun hp'=>(by rw [Xj hp] at hp';cases hp'),XK fuel _ a' w' (Xj hp) h'.2⟩) (h.2 i hi)⟩
theorem Z3 {T:World→Prop} {i:Nat} {oi:Oper} {v:Value} (hi:ops[i]?=some oi) (hsel:∀ (j:Nat) (o:Oper) cs b,ops[j]?=some o→o.op≠.select cs b)
  (hQ:∀ c a w,Q (.panic c) (a.put oi.dst v) w→Q (.panic c) a w) (hib:i ∉ bars)
  (hT:(∀ w,T w)∨((∀ w,S w→T w)∧∀ b∈bars,∀ ob,ops[b]?=some ob→∃ e∈ob.after,Region.binds .any e=true∧e.on=i)) :
  ∀ (fuel:Nat) (listed:Array Bool) (a:Act) (w:World),((∀ w,T w)∨ZS bars listed=false) →
   (∀ j oj,ops[j]?=some oj→j≠i→listed.getD j true=false→(∀ e∈oj.after,Region.binds .any e=true→e.on≠i)→oi.apart ops oj=true) →
   i∈Region.ready .any ops listed→YieldsIf P ops T oi v a→T w→(ZS bars listed=false→S w) →
   XF P ops Q bars S fuel (listed.setIfInBounds i true) (a.put oi.dst v) w→XF P ops Q bars S (fuel+1) listed a w:=by
 intro fuel
 induction fuel with
 | zero =>
  intro listed a w hpl _ hr hy hTw hS H
  refine ⟨fun h=>(by rw [h] at hr;cases hr),fun j hj=>?_⟩
  by_cases hji:j=i
  ·subst hji;exact hy.wpOp hi hTw ⟨fun hp=>hS (by rwa [YG hib] at hp),H⟩
  ·have:=ready_mono hj hji
   rw [H.1] at this
   cases this
 | succ fuel ih =>
  intro listed a w hpl hfree hr hy hTw hS H
  refine ⟨fun h=>(by rw [h] at hr;cases hr),fun j hj=>?_⟩
  by_cases hji:j=i
  ·subst hji;exact hy.wpOp hi hTw ⟨fun hp=>hS (by rwa [YG hib] at hp),H⟩
  ·have h1:=H.2 j (ready_mono hj hji)
   obtain ⟨hjun,oj,hoj,hall⟩:=mem_ready.1 hj
   have hnot:∀ e∈oj.after,Region.binds .any e=true→e.on≠i:=fun e he hb heq=>by
    have h1:=hall e he hb
    have h0:=(mem_ready.1 hr).1
    rw [heq] at h1
    rcases Nat.lt_or_ge i listed.size with h' | h'
    ·simp [h'] at h0 h1;rw [h0] at h1;cases h1
    ·simp [Array.getElem?_eq_none h'] at h1
   have h2:=wpOp_putIf hoj (hfree j oj hoj hji hjun hnot) (fun cs b=>hsel i oi cs b hi) (fun cs b=>hsel j oj cs b hoj) hQ hy h1
   have hfree':∀ k ok,ops[k]?=some ok→k≠i→(listed.setIfInBounds j true).getD k true=false →
     (∀ e∈ok.after,Region.binds .any e=true→e.on≠i)→oi.apart ops ok=true:=fun k ok hk hki hun hno=>by
    refine hfree k ok hk hki ?_ hno
    by_cases hjk:j=k
    ·subst hjk;exact hjun
    ·rw [getD_set_ne true hjk] at hun;exact hun
   have hpe:ZS bars ((listed.setIfInBounds i true).setIfInBounds j true)=ZS bars (listed.setIfInBounds j true):=by
    rw [Array.setIfInBounds_comm _ _ (Ne.symm hji),YG hib]
   refine wpOp_mono (fun a' w' h3=>?_) h2
   have hS':ZS bars (listed.setIfInBounds j true)=false→S w':=fun hp=>h3.2.1 (by rw [hpe];exact hp)
   have hboth:((∀ w,T w)∨ZS bars (listed.setIfInBounds j true)=false)∧T w':=by
    rcases hT with hT | ⟨hST,hbar⟩
    ·exact ⟨.inl hT,hT w'⟩
    ·rcases hpl with hpl | hpl
     ·exact ⟨.inl hpl,hpl w'⟩
     ·have hjb:j ∉ bars:=fun hb=>by
       obtain ⟨e,he,hbi,hei⟩:=hbar j hb oj hoj
       exact hnot e he hbi hei
      have hp':ZS bars (listed.setIfInBounds j true)=false:=by rw [YG hjb];exact hpl
      exact ⟨.inr hp',hST _ (hS' hp')⟩
   refine ⟨hS',ih (listed.setIfInBounds j true) a' w' hboth.1 hfree' (ready_mono hr (Ne.symm hji)) h3.1 hboth.2 hS' ?_⟩
   rw [Array.setIfInBounds_comm _ _ hji]
   exact h3.2.2
end
def wpB (P:Program) (ops:Array Oper) (Q:Exit→Act→World→Prop) (bars:List Nat) (R:World→World→Prop) (fuel:Nat) (listed:Array Bool) (a:Act) (w:World):Prop :=
 XF P ops Q bars (R w) fuel listed a w
def JK (l:List Oper) (b i:Nat):Bool:=match l[b]? with | some o=>o.after.any fun e=>Region.binds .any e&&e.on == i | none=>true
def YZ (l:List Oper) (hs bars:List Nat):List Nat→Array Bool→Bool
 | [],listed=>(Region.ready .any l.toArray listed).isEmpty
 | i :: rest,listed=>decide (i<l.length)&&(Region.ready .any l.toArray listed).contains i &&
   (if hs.contains i then Region.ready .any l.toArray listed == [i] else Region.free .any l.toArray listed i&&!bars.contains i&&(ZS bars listed||bars.all fun b=>JK l b i))&&YZ l hs bars rest (listed.setIfInBounds i true)
def wpV (P:Program) (l:List Oper) (hs bars:List Nat) (Q:Exit→Act→World→Prop) (R:World→World→Prop) (order:List Nat) (listed:Array Bool) (a:Act) (w:World):Prop :=
 Region.noSelect l.toArray=true→YZ l hs bars order listed=true→wpB P l.toArray Q bars R order.length listed a w
section
variable {P:Program} {l:List Oper} {hs bars:List Nat} {Q:Exit→Act→World→Prop} {R:World→World→Prop} {rest:List Nat} {i:Nat} {o:Oper} {listed:Array Bool} {a:Act} {w:World}
theorem zB {id:Nat} (R:World→World→Prop) (hs bars order:List Nat) (hm:P.follows .mixedOrders=true) (hok:(Region.noSelect l.toArray&&order.length == l.length&&YZ l hs bars order (List.replicate l.length false).toArray)=true)
  (h:wpV P l hs bars Q R order (List.replicate l.length false).toArray a w.drew):(Code.region id l.toArray true).wp P Q a w:=by
 simp only [Bool.and_eq_true,beq_iff_eq] at hok
 refine wp_region_any hm (Vt (bars:=bars) (S:=R w.drew) _ _ _ _ ?_)
 have h2:=h hok.1.1 hok.2
 have e:Array.replicate l.toArray.size false=(List.replicate l.length false).toArray:=by simp
 rw [hok.1.2] at h2
 rw [e]
 simpa [wpB] using h2
theorem Gl (M:ZI R) {order:List Nat} (h:∀ W,Hid (W=w)→R w W→wpV P l hs bars Q R order listed a W):wpV P l hs bars Q R order listed a w:=h w rfl (M.refl w)
theorem yG (h:Q .normal a w):wpV P l hs bars Q R [] listed a w:=fun _ hok=>⟨by simpa [YZ] using hok,h⟩
theorem Yr (h:YZ l hs bars (i :: rest) listed=true):i<l.length∧(Region.ready .any l.toArray listed).contains i=true ∧
  (hs.contains i=true→Region.ready .any l.toArray listed=[i]) ∧
  (hs.contains i=false→Region.free .any l.toArray listed i=true∧i ∉ bars∧(ZS bars listed=true∨∀ b∈bars,JK l b i=true))∧YZ l hs bars rest (listed.setIfInBounds i true)=true:=by
 unfold YZ at h
 simp only [Bool.and_eq_true,decide_eq_true_eq] at h
 obtain ⟨⟨⟨h1,h2⟩,h3⟩,h4⟩:=h
 refine ⟨h1,h2,fun h6=>?_,fun h6=>?_,h4⟩
 ·rw [if_pos h6] at h3
  simpa using h3
 ·rw [if_neg (by rw [h6];exact Bool.noConfusion)] at h3
  simp only [Bool.and_eq_true,Bool.not_eq_true',Bool.or_eq_true,List.all_eq_true] at h3
  refine ⟨h3.1.1,fun hm=>?_,h3.2⟩
  have:=h3.1.2
  simp [hm] at this
theorem Vp {b:Nat} {ob:Oper} (hb:l.toArray[b]?=some ob) (h:JK l b i=true):∃ e∈ob.after,Region.binds .any e=true∧e.on=i:=by
 unfold JK at h
 rw [List.getElem?_toArray] at hb
 rw [hb] at h
 simp only [Array.any_eq_true] at h
 obtain ⟨k,hk,he⟩:=h
 simp only [Bool.and_eq_true,beq_iff_eq] at he
 exact ⟨ob.after[k],Array.getElem_mem hk,he.1,he.2⟩
theorem V6 {v:Value} (M:ZI R) (hh:hs.contains i=false) (ho:l[i]?=some o) (hw:Region.wanted o (yielded l.toArray a.tmps)=true) (hQ:∀ c a w,Q (.panic c) (a.put o.dst v) w→Q (.panic c) a w)
  (hrun:∀ w',(ZS bars listed=false→R w w')→(execOp a.eval o).run P w'= .ok (.value v) w') (h:wpV P l hs bars Q R rest (listed.setIfInBounds i true) (a.put o.dst v) w):wpV P l hs bars Q R (i :: rest) listed a w:=by
 intro hn hok
 obtain ⟨h1,h2,-,h4,h5⟩:=Yr hok
 obtain ⟨f1,f2,f3⟩:=h4 hh
 have hoa:l.toArray[i]?=some o:=by rw [List.getElem?_toArray];exact ho
 cases hp:ZS bars listed
 ·refine Z3 (T:=R w) hoa (Region.noSelect_spec hn) hQ f2 (.inr ⟨fun _ h=>h,fun b hb ob hob=>Vp hob ?_⟩) _ _ _ _ (.inr hp) (Region.free_spec hoa f1) (by simpa using h2) (.inl ⟨hw,fun w' hR=>hrun w' fun _=>hR⟩) (M.refl w) (fun _=>M.refl w) (h hn h5)
  rcases f3 with f3 | f3
  ·rw [hp] at f3;cases f3
  ·exact f3 b hb
 ·exact Z3 (T:=fun _=>True) hoa (Region.noSelect_spec hn) hQ f2 (.inl fun _=>trivial) _ _ _ _ (.inl fun _=>trivial) (Region.free_spec hoa f1) (by simpa using h2) (.inl ⟨hw,fun w' _=>hrun w' fun h=>by rw [hp] at h;cases h⟩) trivial (fun _=>M.refl w) (h hn h5)
theorem Jg (M:ZI R) (hh:hs.contains i=false) (ho:l[i]?=some o) (hw:Region.wanted o (yielded l.toArray a.tmps)=false) (hQ:∀ c a w,Q (.panic c) (a.put o.dst undef) w→Q (.panic c) a w)
  (h:wpV P l hs bars Q R rest (listed.setIfInBounds i true) (a.put o.dst undef) w):wpV P l hs bars Q R (i :: rest) listed a w:=by
 intro hn hok
 obtain ⟨h1,h2,-,h4,h5⟩:=Yr hok
 obtain ⟨f1,f2,f3⟩:=h4 hh
 have hoa:l.toArray[i]?=some o:=by rw [List.getElem?_toArray];exact ho
 exact Z3 (T:=fun _=>True) hoa (Region.noSelect_spec hn) hQ f2 (.inl fun _=>trivial) _ _ _ _ (.inl fun _=>trivial) (Region.free_spec hoa f1) (by simpa using h2) (.inr ⟨hw,rfl⟩) trivial (fun _=>M.refl w) (h hn h5)
theorem Xn (M:ZI R) (hh:hs.contains i=true) (ho:l[i]?=some o) (hw:Region.wanted o (yielded l.toArray a.tmps)=true)
  (h:o.wp P a w (fun a' w'=>(ZS bars (listed.setIfInBounds i true)=false→R w w')∧wpV P l hs bars Q R rest (listed.setIfInBounds i true) a' w') Q):wpV P l hs bars Q R (i :: rest) listed a w:=by
 intro hn hok
 obtain ⟨h1,h2,h3,-,h5⟩:=Yr hok
 have hr:=h3 hh
 refine ⟨fun h0=>absurd (hr ▸ h0) (by simp),fun j hj=>?_⟩
 rw [hr,List.mem_singleton] at hj
 subst hj
 unfold wpOp
 have hi:l.toArray[j]?=some o:=by rw [List.getElem?_toArray];exact ho
 simp only [hi,hw,if_true]
 refine .inl (Oper.wp_mono (fun a' w' h'=>⟨h'.1,?_⟩) h)
 have hk:=h'.2 hn h5
 cases hp:ZS bars (listed.setIfInBounds j true)
 ·exact Vj (fun w2 h2=>M.trans _ _ _ (h'.1 hp) h2) _ _ _ _ hk
 ·exact XK _ _ _ _ hp hk
theorem yv {f:FuncId} {vals:Array Value} (M:ZI R) (hh:hs.contains i=true) (ho:l[i]?=some o) (hw:Region.wanted o (yielded l.toArray a.tmps)=true)
  (hrun:∀ w,(execOp a.eval o).run P w= .ok (.enter f vals) w)
  (h:Calls P f vals w fun e w'=>∃ v,e= .returned v∧(ZS bars (listed.setIfInBounds i true)=false→R w w')∧wpV P l hs bars Q R rest (listed.setIfInBounds i true) (a.put o.dst v) w'):wpV P l hs bars Q R (i :: rest) listed a w:=by
 refine Xn M hh ho hw ?_
 unfold Oper.wp
 rw [hrun w]
 refine Calls.mono h ?_
 rintro e w' ⟨v,rfl,h1,h2⟩
 exact ⟨h1,h2⟩
end
end Go.Proofs.Ytbiieaiahdihnaa
