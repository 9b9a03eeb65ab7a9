/- A part of the proof. No condition. -/
import Derived.Test.YtgeofabpinfcmaaGreatProg
import Derived.Test.YtgeofabpinfcmaaGreatEZ3

set_option maxRecDepth 100000
set_option maxHeartbeats 8000000
set_option linter.unusedVariables false
set_option linter.unusedSimpArgs false
namespace Go.Proofs.YtgeofabpinfcmaaGreat
open Go.RowKit
def Ce (bars:List Nat) (Ca:Array Bool):Bool:=bars.any fun b=>Ca.getD b true
theorem Cz {bars:List Nat} {Ca:Array Bool} {j:Nat} (h:j ∉ bars):Ce bars (Ca.setIfInBounds j true)=Ce bars Ca:=by
 unfold Ce
 induction bars with
 | nil=>rfl
 | cons b r ih =>
  simp only [List.mem_cons,not_or] at h;simp only [List.any_cons];rw [getD_set_ne true h.1,ih h.2]
section
variable {P:Program} {ops:Array Oper} {Q:Exit -> Act -> World -> Prop} {bars:List Nat} {S:World -> Prop}
def Mx (P:Program) (ops:Array Oper) (Q:Exit -> Act -> World -> Prop) (bars:List Nat) (S:World -> Prop):Nat -> Array Bool -> Act -> World -> Prop
 | 0,Ca,a,w=>Region.ready .any ops Ca=[] /\ Q .normal a w
 | fuel+1,Ca,a,w =>
  (Region.ready .any ops Ca=[] -> Q .normal a w) /\
  ∀ i∈Region.ready .any ops Ca,wpOp P ops Q i (fun a' w'=>(Ce bars (Ca.setIfInBounds i true)=false -> S w') /\ Mx P ops Q bars S fuel (Ca.setIfInBounds i true) a' w') a w
theorem jU:∀ (fuel:Nat) (Ca:Array Bool) (a:Act) (w:World),Mx P ops Q bars S fuel Ca a w -> wpAny P .any ops Q fuel Ca a w
 | 0,_,_,_,h=>h
 | fuel+1,_,_,_,h=>⟨h.1,fun i hi=>wpOp_mono (fun a' w' h'=>jU fuel _ a' w' h'.2) (h.2 i hi)⟩
theorem iU {S':World -> Prop} (hS:∀ w,S' w -> S w):∀ (fuel:Nat) (Ca:Array Bool) (a:Act) (w:World),Mx P ops Q bars S' fuel Ca a w -> Mx P ops Q bars S fuel Ca a w
 | 0,_,_,_,h=>h
 | fuel+1,_,_,_,h=>⟨h.1,fun i hi=>wpOp_mono (fun a' w' h'=>⟨fun hp=>hS _ (h'.1 hp),iU hS fuel _ a' w' h'.2⟩) (h.2 i hi)⟩
theorem XF {Ca:Array Bool} {i:Nat} (h:Ce bars Ca=true):Ce bars (Ca.setIfInBounds i true)=true:=by
 unfold Ce at *;rw [List.any_eq_true] at *;obtain ⟨b,hb,h1⟩:=h;refine ⟨b,hb,?_⟩;by_cases e:i=b
 ·subst e
  rcases Nat.lt_or_ge i Ca.size with h2 | h2
  ·simp [h2]
  ·simp [Nat.not_lt.2 h2]
 ·rw [getD_set_ne true e];exact h1
theorem gU {S':World -> Prop}:∀ (fuel:Nat) (Ca:Array Bool) (a:Act) (w:World),Ce bars Ca=true -> Mx P ops Q bars S' fuel Ca a w -> Mx P ops Q bars S fuel Ca a w
 | 0,_,_,_,_,h=>h
 | fuel+1,_,_,_,hp,h=>⟨h.1,fun i hi=>wpOp_mono (fun a' w' h'=>⟨fun Yp=>(by rw [XF hp] at Yp;cases Yp),gU fuel _ a' w' (XF hp) h'.2⟩) (h.2 i hi)⟩
theorem FN {T:World -> Prop} {i:Nat} {oi:Oper} {v:Value} (hi:ops[i]?=some oi) (Jf:∀ (j:Nat) (o:Oper) cs b,ops[j]?=some o -> o.op≠.select cs b)
  (hQ:∀ c a w,Q (.panic c) (a.put oi.dst v) w -> Q (.panic c) a w) (Gu:i ∉ bars)
  (hT:(∀ w,T w) \/ ((∀ w,S w -> T w) /\ ∀ b∈bars,∀ ob,ops[b]?=some ob -> ∃ e∈ob.after,Region.binds .any e=true /\ e.on=i)) :
  ∀ (fuel:Nat) (Ca:Array Bool) (a:Act) (w:World),((∀ w,T w) \/ Ce bars Ca=false) ->
   (∀ j oj,ops[j]?=some oj -> j≠i -> Ca.getD j true=false -> (∀ e∈oj.after,Region.binds .any e=true -> e.on≠i) -> oi.apart ops oj=true) ->
   i∈Region.ready .any ops Ca -> YieldsIf P ops T oi v a -> T w -> (Ce bars Ca=false -> S w) ->
   Mx P ops Q bars S fuel (Ca.setIfInBounds i true) (a.put oi.dst v) w -> Mx P ops Q bars S (fuel+1) Ca a w:=by
 intro fuel
 induction fuel with
 | zero =>
  intro Ca a w Jh _ hr hy hTw hS H;refine ⟨fun h=>(by rw [h] at hr;cases hr),fun j hj=>?_⟩
  by_cases oh:j=i
  ·subst oh;exact hy.wpOp hi hTw ⟨fun hp=>hS (by rwa [Cz Gu] at hp),H⟩
  ·have:=ready_mono hj oh
   rw [H.1] at this;cases this
 | succ fuel ih =>
  intro Ca a w Jh Zy hr hy hTw hS H;refine ⟨fun h=>(by rw [h] at hr;cases hr),fun j hj=>?_⟩
  by_cases oh:j=i
  ·subst oh;exact hy.wpOp hi hTw ⟨fun hp=>hS (by rwa [Cz Gu] at hp),H⟩
  ·have h1:=H.2 j (ready_mono hj oh)
   obtain ⟨dz,oj,Nd,zw⟩:=mem_ready.1 hj;have WB:∀ e∈oj.after,Region.binds .any e=true -> e.on≠i:=fun e he hb heq=>by
    have h1:=zw e he hb;have h0:=(mem_ready.1 hr).1;rw [heq] at h1;rcases Nat.lt_or_ge i Ca.size with h' | h'
    ·simp [h'] at h0 h1;rw [h0] at h1;cases h1
    ·simp [Array.getElem?_eq_none h'] at h1
   have h2:=wpOp_putIf Nd (Zy j oj Nd oh dz WB) (fun cs b=>Jf i oi cs b hi) (fun cs b=>Jf j oj cs b Nd) hQ hy h1
   have uF:∀ k ok,ops[k]?=some ok -> k≠i -> (Ca.setIfInBounds j true).getD k true=false ->
     (∀ e∈ok.after,Region.binds .any e=true -> e.on≠i) -> oi.apart ops ok=true:=fun k ok hk hki tz Vp=>by
    refine Zy k ok hk hki ?_ Vp;by_cases Jo:j=k
    ·subst Jo;exact dz
    ·rw [getD_set_ne true Jo] at tz;exact tz
   have Mo:Ce bars ((Ca.setIfInBounds i true).setIfInBounds j true)=Ce bars (Ca.setIfInBounds j true):=by
    rw [Array.setIfInBounds_comm _ _ (Ne.symm oh),Cz Gu]
   refine wpOp_mono (fun a' w' h3=>?_) h2
   have hS':Ce bars (Ca.setIfInBounds j true)=false -> S w':=fun hp=>h3.2.1 (by rw [Mo];exact hp)
   have LP:((∀ w,T w) \/ Ce bars (Ca.setIfInBounds j true)=false) /\ T w':=by
    rcases hT with hT | ⟨hST,EK⟩
    ·exact ⟨.inl hT,hT w'⟩
    ·rcases Jh with Jh | Jh
     ·exact ⟨.inl Jh,Jh w'⟩
     ·have hjb:j ∉ bars:=fun hb=>by
       obtain ⟨e,he,Sd,hei⟩:=EK j hb oj Nd;exact WB e he Sd hei
      have Yp:Ce bars (Ca.setIfInBounds j true)=false:=by rw [Cz hjb];exact Jh
      exact ⟨.inr Yp,hST _ (hS' Yp)⟩
   refine ⟨hS',ih (Ca.setIfInBounds j true) a' w' LP.1 uF (ready_mono hr (Ne.symm oh)) h3.1 LP.2 hS' ?_⟩;rw [Array.setIfInBounds_comm _ _ oh];exact h3.2.2
end
def wpB (P:Program) (ops:Array Oper) (Q:Exit -> Act -> World -> Prop) (bars:List Nat) (R:World -> World -> Prop) (fuel:Nat) (Ca:Array Bool) (a:Act) (w:World):Prop :=
 Mx P ops Q bars (R w) fuel Ca a w
def VI (l:List Oper) (b i:Nat):Bool:=match l[b]? with | some o=>o.after.any fun e=>Region.binds .any e&&e.on == i | none=>true
def Ft (l:List Oper) (hs bars:List Nat):List Nat -> Array Bool -> Bool
 | [],Ca=>(Region.ready .any l.toArray Ca).isEmpty
 | i :: rest,Ca=>decide (i<l.length)&&(Region.ready .any l.toArray Ca).contains i &&
   (if hs.contains i then Region.ready .any l.toArray Ca == [i] else Region.free .any l.toArray Ca i&&!bars.contains i&&(Ce bars Ca||bars.all fun b=>VI l b i))&&Ft l hs bars rest (Ca.setIfInBounds i true)
def Nr (P:Program) (l:List Oper) (hs bars:List Nat) (Q:Exit -> Act -> World -> Prop) (R:World -> World -> Prop) (order:List Nat) (Ca:Array Bool) (a:Act) (w:World):Prop :=
 Region.noSelect l.toArray=true -> Ft l hs bars order Ca=true -> wpB P l.toArray Q bars R order.length Ca a w
section
variable {P:Program} {l:List Oper} {hs bars:List Nat} {Q:Exit -> Act -> World -> Prop} {R:World -> World -> Prop} {rest:List Nat} {i:Nat} {o:Oper} {Ca:Array Bool} {a:Act} {w:World}
theorem Qt {id:Nat} (R:World -> World -> Prop) (hs bars order:List Nat) (hm:P.follows .mixedOrders=true) (Ta:(Region.noSelect l.toArray&&order.length == l.length&&Ft l hs bars order (List.replicate l.length false).toArray)=true)
  (h:Nr P l hs bars Q R order (List.replicate l.length false).toArray a w.drew):(Code.region id l.toArray true).wp P Q a w:=by
 simp only [Bool.and_eq_true,beq_iff_eq] at Ta;refine wp_region_any hm (jU (bars:=bars) (S:=R w.drew) _ _ _ _ ?_);have h2:=h Ta.1.1 Ta.2;have e:Array.replicate l.toArray.size false=(List.replicate l.length false).toArray:=by simp
 rw [Ta.1.2] at h2;rw [e]
 simpa [wpB] using h2
theorem Tt (M:Oe R) {order:List Nat} (h:∀ W,Hid (W=w) -> R w W -> Nr P l hs bars Q R order Ca a W):Nr P l hs bars Q R order Ca a w:=h w rfl (M.refl w)
theorem Rt (h:Q .normal a w):Nr P l hs bars Q R [] Ca a w:=fun _ Ta=>⟨by simpa [Ft] using Ta,h⟩
theorem eE (h:Ft l hs bars (i :: rest) Ca=true):i<l.length /\ (Region.ready .any l.toArray Ca).contains i=true /\
  (hs.contains i=true -> Region.ready .any l.toArray Ca=[i]) /\
  (hs.contains i=false -> Region.free .any l.toArray Ca i=true /\ i ∉ bars /\ (Ce bars Ca=true \/ ∀ b∈bars,VI l b i=true)) /\ Ft l hs bars rest (Ca.setIfInBounds i true)=true:=by
 unfold Ft at h;simp only [Bool.and_eq_true,decide_eq_true_eq] at h;obtain ⟨⟨⟨h1,h2⟩,h3⟩,h4⟩:=h;refine ⟨h1,h2,fun h6=>?_,fun h6=>?_,h4⟩
 ·rw [if_pos h6] at h3
  simpa using h3
 ·rw [if_neg (by rw [h6];exact Bool.noConfusion)] at h3
  simp only [Bool.and_eq_true,Bool.not_eq_true',Bool.or_eq_true,List.all_eq_true] at h3;refine ⟨h3.1.1,fun hm=>?_,h3.2⟩
  have:=h3.1.2;simp [hm] at this
theorem aU {b:Nat} {ob:Oper} (hb:l.toArray[b]?=some ob) (h:VI l b i=true):∃ e∈ob.after,Region.binds .any e=true /\ e.on=i:=by
 unfold VI at h;rw [List.getElem?_toArray] at hb;rw [hb] at h;simp only [Array.any_eq_true] at h;obtain ⟨k,hk,he⟩:=h;simp only [Bool.and_eq_true,beq_iff_eq] at he;exact ⟨ob.after[k],Array.getElem_mem hk,he.1,he.2⟩
theorem qU {v:Value} (M:Oe R) (hh:hs.contains i=false) (ho:l[i]?=some o) (hw:Region.wanted o (yielded l.toArray a.tmps)=true) (hQ:∀ c a w,Q (.panic c) (a.put o.dst v) w -> Q (.panic c) a w)
  (Re:∀ w',(Ce bars Ca=false -> R w w') -> (execOp a.eval o).run P w'= .ok (.value v) w') (h:Nr P l hs bars Q R rest (Ca.setIfInBounds i true) (a.put o.dst v) w):Nr P l hs bars Q R (i :: rest) Ca a w:=by
 intro hn Ta;obtain ⟨h1,h2,-,h4,h5⟩:=eE Ta;obtain ⟨f1,f2,f3⟩:=h4 hh;have Wp:l.toArray[i]?=some o:=by rw [List.getElem?_toArray];exact ho
 cases hp:Ce bars Ca
 ·refine FN (T:=R w) Wp (Region.noSelect_spec hn) hQ f2 (.inr ⟨fun _ h=>h,fun b hb ob hob=>aU hob ?_⟩) _ _ _ _ (.inr hp) (Region.free_spec Wp f1) (by simpa using h2) (.inl ⟨hw,fun w' hR=>Re w' fun _=>hR⟩) (M.refl w) (fun _=>M.refl w) (h hn h5)
  rcases f3 with f3 | f3
  ·rw [hp] at f3;cases f3
  ·exact f3 b hb
 ·exact FN (T:=fun _=>True) Wp (Region.noSelect_spec hn) hQ f2 (.inl fun _=>trivial) _ _ _ _ (.inl fun _=>trivial) (Region.free_spec Wp f1) (by simpa using h2) (.inl ⟨hw,fun w' _=>Re w' fun h=>by rw [hp] at h;cases h⟩) trivial (fun _=>M.refl w) (h hn h5)
theorem rU (M:Oe R) (hh:hs.contains i=false) (ho:l[i]?=some o) (hw:Region.wanted o (yielded l.toArray a.tmps)=false) (hQ:∀ c a w,Q (.panic c) (a.put o.dst undef) w -> Q (.panic c) a w)
  (h:Nr P l hs bars Q R rest (Ca.setIfInBounds i true) (a.put o.dst undef) w):Nr P l hs bars Q R (i :: rest) Ca a w:=by
 intro hn Ta;obtain ⟨h1,h2,-,h4,h5⟩:=eE Ta;obtain ⟨f1,f2,f3⟩:=h4 hh;have Wp:l.toArray[i]?=some o:=by rw [List.getElem?_toArray];exact ho
 exact FN (T:=fun _=>True) Wp (Region.noSelect_spec hn) hQ f2 (.inl fun _=>trivial) _ _ _ _ (.inl fun _=>trivial) (Region.free_spec Wp f1) (by simpa using h2) (.inr ⟨hw,rfl⟩) trivial (fun _=>M.refl w) (h hn h5)
theorem Ag {a b:Prop} (h:a) (s:Imp a b:=by
 (repeat ((first | (apply Imp.via (rU (xa) rfl rfl rfl (fun _ _ _ h=>h))) | (apply Imp.via (qU (v:=?_) (xa) rfl rfl rfl (fun _ _ _ h=>h) ?hr);case hr=>(intro w' hR;(first | have Bn:=JH ((xa).trans _ _ _ ja (hR rfl)) | skip);clear hR;go_simp;try with_reducible rfl)));simp only [Act.put,zLa,zLb,zLc]))
 exact Imp.rfl'):b:=s h
theorem Rh (M:Oe R) (hh:hs.contains i=true) (ho:l[i]?=some o) (hw:Region.wanted o (yielded l.toArray a.tmps)=true)
  (h:o.wp P a w (fun a' w'=>(Ce bars (Ca.setIfInBounds i true)=false -> R w w') /\ Nr P l hs bars Q R rest (Ca.setIfInBounds i true) a' w') Q):Nr P l hs bars Q R (i :: rest) Ca a w:=by
 intro hn Ta;obtain ⟨h1,h2,h3,-,h5⟩:=eE Ta;have hr:=h3 hh;refine ⟨fun h0=>absurd (hr ▸ h0) (by simp),fun j hj=>?_⟩
 rw [hr,List.mem_singleton] at hj;subst hj;unfold wpOp;have hi:l.toArray[j]?=some o:=by rw [List.getElem?_toArray];exact ho
 simp only [hi,hw,if_true];refine .inl (Oper.wp_mono (fun a' w' h'=>⟨h'.1,?_⟩) h)
 have hk:=h'.2 hn h5;cases hp:Ce bars (Ca.setIfInBounds j true)
 ·exact iU (fun w2 h2=>M.trans _ _ _ (h'.1 hp) h2) _ _ _ _ hk
 ·exact gU _ _ _ _ hp hk
theorem fh {f:FuncId} {vals:Array Value} (M:Oe R) (hh:hs.contains i=true) (ho:l[i]?=some o) (hw:Region.wanted o (yielded l.toArray a.tmps)=true)
  (Re:∀ w,(execOp a.eval o).run P w= .ok (.enter f vals) w)
  (h:Calls P f vals w fun e w'=>∃ v,e= .returned v /\ (Ce bars (Ca.setIfInBounds i true)=false -> R w w') /\ Nr P l hs bars Q R rest (Ca.setIfInBounds i true) (a.put o.dst v) w'):Nr P l hs bars Q R (i :: rest) Ca a w:=by
 refine Rh M hh ho hw ?_;unfold Oper.wp;rw [Re w];refine Calls.mono h ?_;rintro e w' ⟨v,rfl,h1,h2⟩;exact ⟨h1,h2⟩
end
def qj (g N:Nat) (w w':World):Prop:=w'.os=w.os /\ w'.tape=w.tape /\ w'.output=w.output /\ w.heap.size <= w'.heap.size /\ ∀ b,b<N -> b≠g -> w'.heap[b]?=w.heap[b]?
theorem xb (g N:Nat):Oe (qj g N):=⟨fun _=>⟨rfl,rfl,rfl,zR,fun _ _ _=>rfl⟩,fun _ _ _ h k=>⟨k.1.trans h.1,k.2.1.trans h.2.1,k.2.2.1.trans h.2.2.1,Nat.le_trans h.2.2.2.1 k.2.2.2.1,fun b h1 h2=>(k.2.2.2.2 b h1 h2).trans (h.2.2.2.2 b h1 h2)⟩⟩
theorem xP {g N:Nat} {w w':World} (h:qj g N w.drew w'):∀ b o,b<N -> b≠g -> w'.cell? ⟨b,o,none⟩=w.cell? ⟨b,o,none⟩:=fun b o hb Bb=>by
 have:=h.2.2.2.2 b hb Bb;simp only [World.cell?,this]
 rfl
theorem Vn {a b:Prop} (h:a) (s:Imp a b:=by
 (repeat ((first | (apply Imp.via (mD (xb _ _) rfl rfl (fun _ _ _ h=>h))) | (apply Imp.via (lD (v:=?_) (xb _ _) rfl rfl (fun _ _ _ h=>h) ?hr);case hr=>(intro w' hR;(first | have Bn:=xP ((xb _ _).trans _ _ _ ja hR) | skip);go_simp;try with_reducible rfl)));simp only [Act.put,zLa,zLb,zLc]))
 exact Imp.rfl'):b:=s h
theorem Ah {a b:Prop} (h:a) (s:Imp a b:=by
 (repeat ((first | (apply Imp.via (rU (xb _ _) rfl rfl rfl (fun _ _ _ h=>h))) | (apply Imp.via (qU (v:=?_) (xb _ _) rfl rfl rfl (fun _ _ _ h=>h) ?hr);case hr=>(intro w' hR;(first | have Bn:=xP ((xb _ _).trans _ _ _ ja (hR rfl)) | skip);clear hR;go_simp;try with_reducible rfl)));simp only [Act.put,zLa,zLb,zLc]))
 exact Imp.rfl'):b:=s h
theorem ue {g N B:Nat} {w w':World} (h:Below B w w') (hN:N <= B):qj g N w w':=⟨h.os,h.tape,h.output,h.size,fun b hb _=>h.block b (by omega)⟩
theorem mB {g N:Nat} {w w':World} (h:w.grownBy w' (some g)) (hN:N <= w.heap.size):qj g N w w':=⟨h.os,h.tape,h.output,h.size,fun b hb Bb=>h.block b (by omega) (fun e=>Bb (Option.some.inj e))⟩
theorem Ao {g N:Nat} {w w':World} {row:Option Nat} (h:w.grownBy w' row) (hN:N <= w.heap.size) (hr:∀ k,row=some k -> N <= k):qj g N w w':=⟨h.os,h.tape,h.output,h.size,fun b hb _=>h.block b (by omega) (fun e=>by have:=hr b e.symm;omega)⟩
theorem Uh {B:Nat} {w0 w1 w2:World} (h1:Below B w0 w1) (h2:Below w1.heap.size w1 w2) (hB:B <= w1.heap.size:=by omega):Below B w0 w2:=h1.trans (h2.mono hB)
theorem jR {g:Nat} {w w':World} (h:Below w.heap.size w w'):jn g w w':=Cm (Hf w _) h zR
theorem WU {w w':World} {p:Addr} {v:Value} (h:Below w.drew.heap.size w.drew w') (hc:w.cell? p=some v):w'.cell? p=some v:=(Below.cell h (World.block_lt_of_cell? _ _ hc)).trans hc
theorem Ue (w:World) (t1 t2:TypeId) (ed me:Array Value) :
  Blk ((w.alloc (.cells ed t1)).alloc (.cells me t2)) w.heap.size t1 ed /\ Blk ((w.alloc (.cells ed t1)).alloc (.cells me t2)) (w.heap.size+1) t2 me /\ Below w.heap.size w ((w.alloc (.cells ed t1)).alloc (.cells me t2)) /\ ((w.alloc (.cells ed t1)).alloc (.cells me t2)).heap.size=w.heap.size+2:=by
 refine ⟨(Blk.new w t1 ed).alloc _,?_,((Below.refl _ w).alloc zR _).alloc (by simp) _,by simp⟩
 have:=Blk.new (w.alloc (.cells ed t1)) t2 me
 simpa using this
theorem Oq (w:World) (t1 t2 t3:TypeId) (ed me Sf:Array Value) :
  Blk (((w.alloc (.cells ed t1)).alloc (.cells me t2)).alloc (.cells Sf t3)) w.heap.size t1 ed /\ Blk (((w.alloc (.cells ed t1)).alloc (.cells me t2)).alloc (.cells Sf t3)) (w.heap.size+1) t2 me /\ Blk (((w.alloc (.cells ed t1)).alloc (.cells me t2)).alloc (.cells Sf t3)) (w.heap.size+1+1) t3 Sf /\
   Below w.heap.size w (((w.alloc (.cells ed t1)).alloc (.cells me t2)).alloc (.cells Sf t3)) /\ (((w.alloc (.cells ed t1)).alloc (.cells me t2)).alloc (.cells Sf t3)).heap.size=w.heap.size+3:=by
 obtain ⟨h1,h2,h3,h4⟩:=Ue w t1 t2 ed me;refine ⟨h1.alloc _,h2.alloc _,?_,h3.alloc h3.size _,by simp⟩
 have:=Blk.new ((w.alloc (.cells ed t1)).alloc (.cells me t2)) t3 Sf
 rwa [h4] at this
theorem Lr {w:World} {g:Nat} {t:TypeId} {y0 y1 y2:Value} (k:Blk w g t #[y0,y1,y2]) (x0 x1 x2:Value):Blk (((w.setCell ⟨g,0,none⟩ x0).setCell ⟨g,1,none⟩ x1).setCell ⟨g,2,none⟩ x2) g t #[x0,x1,x2]:=by
 have h:=(((k.set_ 0 x0).set_ 1 x1).set_ 2 x2)
 simpa using h
theorem vq {w:World} {g:Nat} (x0 x1 x2:Value):w.grownBy (((w.setCell ⟨g,0,none⟩ x0).setCell ⟨g,1,none⟩ x1).setCell ⟨g,2,none⟩ x2) (some g):=by
 iterate 3 refine mh ?_ (.inl rfl) _
 exact Hf w _
theorem Ff {g B:Nat} {a w:World} (h:a.grownBy w (some g)) (hB:B <= a.heap.size) (hg:B <= g):Below B a w:=TE h B hB fun _ e=>by have:=Option.some.inj e;omega
theorem Pb {g:Nat} {a b c:World} (h:Below a.heap.size a b) (k:b.grownBy c (some g)) (e:a.heap.size <= g:=by omega):Below a.heap.size a c:=h.trans (Ff k h.size e)
section
variable {P:Program} {ops:Array Oper} {Q:Exit -> Act -> World -> Prop} {R:World -> World -> Prop}
def PureRun (P:Program) (R:World -> World -> Prop) (W:World) (ρ:Operand -> Value) (o:Oper) (v:Value):Prop :=
 (∀ w,R W w -> (execOp ρ o).run P w= .ok (.value v) w) \/ ∃ f vals,(∀ w,(execOp ρ o).run P w= .ok (.enter f vals) w) /\ ∀ w,R W w -> Calls P f vals w fun e w'=>e= .returned v /\ R w w'
def PureAt (P:Program) (ops:Array Oper) (R:World -> World -> Prop) (W:World) (o:Oper) (v:Value) (a:Act):Prop :=
 (Region.wanted o (yielded ops a.tmps)=true /\ PureRun P R W a.eval o v) \/ (Region.wanted o (yielded ops a.tmps)=false /\ v=undef)
theorem PureRun.later (M:Oe R) {W W':World} {ρ:Operand -> Value} {o:Oper} {v:Value} (h:PureRun P R W ρ o v) (hR:R W W'):PureRun P R W' ρ o v:=by
 rcases h with h | ⟨f,vals,h1,h2⟩
 ·exact .inl fun w hw=>h w (M.trans _ _ _ hR hw)
 ·exact .inr ⟨f,vals,h1,fun w hw=>h2 w (M.trans _ _ _ hR hw)⟩
theorem PureAt.later (M:Oe R) {W W':World} {o:Oper} {v:Value} {a:Act} (h:PureAt P ops R W o v a) (hR:R W W'):PureAt P ops R W' o v a :=
 h.imp (fun h=>⟨h.1,h.2.later M hR⟩) id
theorem PureAt.same {W:World} {o:Oper} {v:Value} {a a':Act} (h:PureAt P ops R W o v a) (he:execOp a'.eval o=execOp a.eval o) (hw:Region.wanted o (yielded ops a'.tmps)=Region.wanted o (yielded ops a.tmps)):PureAt P ops R W o v a':=by
 unfold PureAt PureRun at *;rw [he,hw];exact h
theorem PureAt.op {W w:World} {i:Nat} {o:Oper} {v:Value} {a:Act} {K:Act -> World -> Prop} (M:Oe R) (hi:ops[i]?=some o) (h:PureAt P ops R W o v a) (hR:R W w) (hK:∀ w',R w w' -> K (a.put o.dst v) w'):wpOp P ops Q i K a w:=by
 unfold wpOp;simp only [hi];rcases h with ⟨hw,h | ⟨f,vals,h1,h2⟩⟩ | ⟨hw,rfl⟩
 ·simp only [hw,if_true,Oper.wp,h w hR,Oper.upon]
  exact .inl (hK w (M.refl w))
 ·simp only [hw,if_true,Oper.wp,h1 w,Oper.upon]
  refine .inl (Calls.mono (h2 w hR) ?_);rintro e w' ⟨rfl,h3⟩;exact hK w' h3
 ·simp only [hw,Bool.false_eq_true,if_false]
  exact hK w (M.refl w)
theorem N6 {Pi:Act -> Prop} {j:Nat} {oi oj:Oper} {v:Value} (hj:ops[j]?=some oj) (Mp:oi.apart ops oj=true)
  (Xw:∀ cs b,oi.op≠.select cs b) (hsj:∀ cs b,oj.op≠.select cs b)
  (hPi:∀ a a',Pi a -> execOp a'.eval oi=execOp a.eval oi -> Region.wanted oi (yielded ops a'.tmps)=Region.wanted oi (yielded ops a.tmps) -> Pi a')
  (hQ:∀ c a w,Q (.panic c) (a.put oi.dst v) w -> Q (.panic c) a w) {K:Act -> World -> Prop} {a:Act} {w:World}
  (hy:Pi a) (h:wpOp P ops Q j K (a.put oi.dst v) w):wpOp P ops Q j (fun a' w'=>Pi a' /\ K (a'.put oi.dst v) w') a w:=by
 obtain ⟨h1,h2,h3⟩:=Oper.apart_spec Mp;have keep:∀ u,Pi (a.put oj.dst u):=fun u=>hPi a _ hy (execOp_put oi Xw a oj.dst u h3) (wanted_put oi a oj.dst u h3)
 unfold wpOp at *;simp only [hj] at *;rw [wanted_put oj a oi.dst v h1] at h;split
 ·rename_i hw
  simp only [hw,if_true] at h;rcases h with h | ⟨KP,hlets⟩
  case inr=>exact .inr ⟨by unfold Oper.asks at *;rw [execOp_put oj hsj a oi.dst v h1] at KP;exact KP,hlets⟩
  refine .inl ?_;unfold Oper.wp at *;rw [execOp_put oj hsj a oi.dst v h1] at h;generalize (execOp a.eval oj).run P w=r at *;rcases r with ⟨n,w'⟩ | ⟨x,w'⟩
  ·cases n <;> simp only [Oper.upon] at h |-
   case value u=>exact ⟨keep u,by rw [<- Act.put_comm a v u h2];exact h⟩
   case skip=>exact ⟨keep _,by rw [<- Act.put_comm a v undef h2];exact h⟩
   case defer d =>
    refine ⟨hPi _ _ (hPi a { a with defers:=d :: a.defers } hy rfl rfl) (execOp_put oi Xw _ oj.dst _ h3) (wanted_put oi _ oj.dst _ h3),?_⟩
    rw [<- Act.put_comm _ v undef h2,<- Act.put_defers];exact h
   case enter f args =>
    refine Calls.mono h fun e dh he=>?_
    rcases e with u | c | _
    ·exact ⟨keep u,by rw [<- Act.put_comm a v u h2];exact he⟩
    ·exact hQ _ _ _ he
    ·exact he
   case row row args=>exact Rows.mono h fun u dh he=>⟨keep u,by rw [<- Act.put_comm a v u h2];exact he⟩
  ·cases x <;> simp only [Oper.upon] at h |-
   case panic u=>exact hQ _ _ _ h
 ·rename_i hw
  simp only [hw] at h;exact ⟨keep _,by rw [<- Act.put_comm a v undef h2];exact h⟩
def May (bars:List Nat) (R:World -> World -> Prop) (Ca:Array Bool) (w w1:World):Prop:=if Ce bars Ca=true then w1=w else R w w1
theorem May.refl (M:Oe R) (bars:List Nat) (Ca:Array Bool) (w:World):May bars R Ca w w:=by
 unfold May;split
 ·rfl
 ·exact M.refl w
theorem May.of {bars:List Nat} {Ca:Array Bool} {w w1:World} (hp:Ce bars Ca=false) (h:R w w1):May bars R Ca w w1:=by
 unfold May;rw [if_neg (by rw [hp];exact Bool.noConfusion)]
 exact h
theorem May.out {bars:List Nat} {Ca:Array Bool} {w w1:World} (hp:Ce bars Ca=false) (h:May bars R Ca w w1):R w w1:=by
 unfold May at h
 rwa [if_neg (by rw [hp];exact Bool.noConfusion)] at h
theorem May.eq {bars:List Nat} {Ca:Array Bool} {w w1:World} (hp:Ce bars Ca=true) (h:May bars R Ca w w1):w1=w:=by
 unfold May at h
 rwa [if_pos hp] at h
def Nx (P:Program) (ops:Array Oper) (Q:Exit -> Act -> World -> Prop) (bars:List Nat) (R:World -> World -> Prop):Nat -> Array Bool -> Act -> World -> Prop
 | 0,Ca,a,w=>Region.ready .any ops Ca=[] /\ ∀ w1,May bars R Ca w w1 -> Q .normal a w1
 | fuel+1,Ca,a,w=>∀ w1,May bars R Ca w w1 -> (Region.ready .any ops Ca=[] -> Q .normal a w1) /\
   ∀ i∈Region.ready .any ops Ca,wpOp P ops Q i (fun a' w'=>(Ce bars (Ca.setIfInBounds i true)=false -> R w1 w') /\ Nx P ops Q bars R fuel (Ca.setIfInBounds i true) a' w') a w1
theorem nU (M:Oe R) {bars:List Nat}:∀ (fuel:Nat) (Ca:Array Bool) (a:Act) (w w2:World),Ce bars Ca=false -> R w w2 -> Nx P ops Q bars R fuel Ca a w -> Nx P ops Q bars R fuel Ca a w2
 | 0,_,_,_,_,hp,hR,h=>⟨h.1,fun w1 h1=>h.2 w1 (.of hp (M.trans _ _ _ hR (h1.out hp)))⟩
 | _+1,_,_,_,_,hp,hR,h=>fun w1 h1=>h w1 (.of hp (M.trans _ _ _ hR (h1.out hp)))
theorem kU (M:Oe R) {bars:List Nat}:∀ (fuel:Nat) (Ca:Array Bool) (a:Act) (w:World),Nx P ops Q bars R fuel Ca a w -> wpAny P .any ops Q fuel Ca a w
 | 0,_,_,w,h=>⟨h.1,h.2 w (.refl M _ _ w)⟩
 | fuel+1,_,_,w,h=>⟨(h w (.refl M _ _ w)).1,fun i hi=>wpOp_mono (fun a' w' h'=>kU M fuel _ a' w' h'.2) ((h w (.refl M _ _ w)).2 i hi)⟩
theorem J6 (M:Oe R) {bars:List Nat} {i:Nat} {oi:Oper} {v:Value} (hi:ops[i]?=some oi) (Jf:∀ (j:Nat) (o:Oper) cs b,ops[j]?=some o -> o.op≠.select cs b)
  (hQ:∀ c a w,Q (.panic c) (a.put oi.dst v) w -> Q (.panic c) a w) (Gu:i ∉ bars) (EK:∀ b∈bars,∀ ob,ops[b]?=some ob -> ∃ e∈ob.after,Region.binds .any e=true /\ e.on=i) :
  ∀ (fuel:Nat) (Ca:Array Bool) (a:Act) (w:World),Ce bars Ca=false ->
   (∀ j oj,ops[j]?=some oj -> j≠i -> Ca.getD j true=false -> (∀ e∈oj.after,Region.binds .any e=true -> e.on≠i) -> oi.apart ops oj=true) ->
   i∈Region.ready .any ops Ca -> PureAt P ops R w oi v a -> Nx P ops Q bars R fuel (Ca.setIfInBounds i true) (a.put oi.dst v) w -> Nx P ops Q bars R (fuel+1) Ca a w:=by
 intro fuel
 induction fuel with
 | zero =>
  intro Ca a w hp _ hr hy H w1 ai;have Yp:Ce bars (Ca.setIfInBounds i true)=false:=by rw [Cz Gu];exact hp
  have Rs:=ai.out hp;refine ⟨fun h=>(by rw [h] at hr;cases hr),fun j hj=>?_⟩
  by_cases oh:j=i
  ·subst oh
   exact hy.op M hi Rs fun w' h'=>⟨fun _=>h',nU M _ _ _ _ _ Yp (M.trans _ _ _ Rs h') H⟩
  ·have:=ready_mono hj oh
   rw [H.1] at this;cases this
 | succ fuel ih =>
  intro Ca a w hp Zy hr hy H w1 ai;have Yp:Ce bars (Ca.setIfInBounds i true)=false:=by rw [Cz Gu];exact hp
  have Rs:=ai.out hp;refine ⟨fun h=>(by rw [h] at hr;cases hr),fun j hj=>?_⟩
  by_cases oh:j=i
  ·subst oh
   exact hy.op M hi Rs fun w' h'=>⟨fun _=>h',nU M _ _ _ _ _ Yp (M.trans _ _ _ Rs h') H⟩
  ·have h1:=(H w1 (.of Yp Rs)).2 j (ready_mono hj oh)
   obtain ⟨dz,oj,Nd,zw⟩:=mem_ready.1 hj;have WB:∀ e∈oj.after,Region.binds .any e=true -> e.on≠i:=fun e he hb heq=>by
    have h1:=zw e he hb;have h0:=(mem_ready.1 hr).1;rw [heq] at h1;rcases Nat.lt_or_ge i Ca.size with h' | h'
    ·simp [h'] at h0 h1;rw [h0] at h1;cases h1
    ·simp [Array.getElem?_eq_none h'] at h1
   have hjb:j ∉ bars:=fun hb=>by
    obtain ⟨e,he,Sd,hei⟩:=EK j hb oj Nd;exact WB e he Sd hei
   have hpj:Ce bars (Ca.setIfInBounds j true)=false:=by rw [Cz hjb];exact hp
   have hpij:Ce bars ((Ca.setIfInBounds i true).setIfInBounds j true)=false:=by rw [Cz hjb];exact Yp
   have h2:=N6 (Pi:=PureAt P ops R w1 oi v) Nd (Zy j oj Nd oh dz WB) (fun cs b=>Jf i oi cs b hi) (fun cs b=>Jf j oj cs b Nd) (fun _ _ h he hw=>h.same he hw) hQ (hy.later M Rs) h1
   have uF:∀ k ok,ops[k]?=some ok -> k≠i -> (Ca.setIfInBounds j true).getD k true=false ->
     (∀ e∈ok.after,Region.binds .any e=true -> e.on≠i) -> oi.apart ops ok=true:=fun k ok hk hki tz Vp=>by
    refine Zy k ok hk hki ?_ Vp;by_cases Jo:j=k
    ·subst Jo;exact dz
    ·rw [getD_set_ne true Jo] at tz;exact tz
   refine wpOp_mono (fun a' w' h3=>?_) h2
   have wu:=h3.2.1 hpij;refine ⟨fun _=>wu,ih (Ca.setIfInBounds j true) a' w' hpj uF (ready_mono hr (Ne.symm oh)) (h3.1.later M wu) ?_⟩
   rw [Array.setIfInBounds_comm _ _ oh];exact h3.2.2
theorem K6 {bars:List Nat} {i:Nat} {oi:Oper} {v:Value} (hi:ops[i]?=some oi) (Jf:∀ (j:Nat) (o:Oper) cs b,ops[j]?=some o -> o.op≠.select cs b)
  (hQ:∀ c a w,Q (.panic c) (a.put oi.dst v) w -> Q (.panic c) a w) :
  ∀ (fuel:Nat) (Ca:Array Bool) (a:Act) (w:World),Ce bars Ca=true ->
   (∀ j oj,ops[j]?=some oj -> j≠i -> Ca.getD j true=false -> (∀ e∈oj.after,Region.binds .any e=true -> e.on≠i) -> oi.apart ops oj=true) ->
   i∈Region.ready .any ops Ca -> YieldsIf P ops (fun _=>True) oi v a -> Nx P ops Q bars R fuel (Ca.setIfInBounds i true) (a.put oi.dst v) w -> Nx P ops Q bars R (fuel+1) Ca a w:=by
 intro fuel;have Vp:∀ {Ca:Array Bool} {j:Nat} {w w':World},Ce bars Ca=true -> Ce bars (Ca.setIfInBounds j true)=false -> R w w':=fun h h'=>by
  rw [XF h] at h';cases h'
 induction fuel with
 | zero =>
  intro Ca a w hp _ hr hy H w1 ai;obtain rfl:=ai.eq hp;refine ⟨fun h=>(by rw [h] at hr;cases hr),fun j hj=>?_⟩
  by_cases oh:j=i
  ·subst oh
   exact hy.wpOp hi trivial ⟨Vp hp,H⟩
  ·have:=ready_mono hj oh
   rw [H.1] at this;cases this
 | succ fuel ih =>
  intro Ca a w hp Zy hr hy H w1 ai;obtain rfl:=ai.eq hp;refine ⟨fun h=>(by rw [h] at hr;cases hr),fun j hj=>?_⟩
  by_cases oh:j=i
  ·subst oh
   exact hy.wpOp hi trivial ⟨Vp hp,H⟩
  ·have h1:=(H w1 (by unfold May;rw [if_pos (XF hp)])).2 j (ready_mono hj oh)
   obtain ⟨dz,oj,Nd,zw⟩:=mem_ready.1 hj;have WB:∀ e∈oj.after,Region.binds .any e=true -> e.on≠i:=fun e he hb heq=>by
    have h1:=zw e he hb;have h0:=(mem_ready.1 hr).1;rw [heq] at h1;rcases Nat.lt_or_ge i Ca.size with h' | h'
    ·simp [h'] at h0 h1;rw [h0] at h1;cases h1
    ·simp [Array.getElem?_eq_none h'] at h1
   have h2:=wpOp_putIf Nd (Zy j oj Nd oh dz WB) (fun cs b=>Jf i oi cs b hi) (fun cs b=>Jf j oj cs b Nd) hQ hy h1
   have uF:∀ k ok,ops[k]?=some ok -> k≠i -> (Ca.setIfInBounds j true).getD k true=false ->
     (∀ e∈ok.after,Region.binds .any e=true -> e.on≠i) -> oi.apart ops ok=true:=fun k ok hk hki tz Vp=>by
    refine Zy k ok hk hki ?_ Vp;by_cases Jo:j=k
    ·subst Jo;exact dz
    ·rw [getD_set_ne true Jo] at tz;exact tz
   refine wpOp_mono (fun a' w' h3=>⟨Vp hp,ih (Ca.setIfInBounds j true) a' w' (XF hp) uF (ready_mono hr (Ne.symm oh)) h3.1 ?_⟩) h2
   rw [Array.setIfInBounds_comm _ _ oh];exact h3.2.2
end
def dm (P:Program) (l:List Oper) (hs bars:List Nat) (Q:Exit -> Act -> World -> Prop) (R:World -> World -> Prop) (order:List Nat) (Ca:Array Bool) (a:Act) (w:World):Prop :=
 Region.noSelect l.toArray=true -> Ft l hs bars order Ca=true -> Nx P l.toArray Q bars R order.length Ca a w
section
variable {P:Program} {l:List Oper} {hs bars:List Nat} {Q:Exit -> Act -> World -> Prop} {R:World -> World -> Prop} {rest:List Nat} {i:Nat} {o:Oper} {Ca:Array Bool} {a:Act} {w:World}
theorem Hd {id:Nat} (R:World -> World -> Prop) (M:Oe R) (hs bars order:List Nat) (hm:P.follows .mixedOrders=true) (Ta:(Region.noSelect l.toArray&&order.length == l.length&&Ft l hs bars order (List.replicate l.length false).toArray)=true)
  (h:dm P l hs bars Q R order (List.replicate l.length false).toArray a w.drew):(Code.region id l.toArray true).wp P Q a w:=by
 simp only [Bool.and_eq_true,beq_iff_eq] at Ta;refine wp_region_any hm (kU (R:=R) (bars:=bars) M _ _ _ _ ?_);have h2:=h Ta.1.1 Ta.2;have e:Array.replicate l.toArray.size false=(List.replicate l.length false).toArray:=by simp
 rw [Ta.1.2] at h2;rw [e]
 simpa using h2
theorem Jd (M:Oe R) {order:List Nat} (h:∀ W,R w W -> dm P l hs bars Q R order Ca a W):dm P l hs bars Q R order Ca a w:=h w (M.refl w)
theorem eh (hp:Ce bars Ca=false) (h:∀ w1,R w w1 -> Q .normal a w1):dm P l hs bars Q R [] Ca a w:=fun _ Ta=>⟨by simpa [Ft] using Ta,fun w1 h1=>h w1 (h1.out hp)⟩
theorem Oh (hp:Ce bars Ca=true) (h:Q .normal a w):dm P l hs bars Q R [] Ca a w:=fun _ Ta=>⟨by simpa [Ft] using Ta,fun w1 h1=>by rw [h1.eq hp];exact h⟩
theorem GN {v:Value} (M:Oe R) (hh:hs.contains i=false) (hp:Ce bars Ca=false) (ho:l[i]?=some o) (hQ:∀ c a w,Q (.panic c) (a.put o.dst v) w -> Q (.panic c) a w)
  (hpu:PureAt P l.toArray R w o v a) (h:dm P l hs bars Q R rest (Ca.setIfInBounds i true) (a.put o.dst v) w):dm P l hs bars Q R (i :: rest) Ca a w:=by
 intro hn Ta;obtain ⟨h1,h2,-,h4,h5⟩:=eE Ta;obtain ⟨f1,f2,f3⟩:=h4 hh;have Wp:l.toArray[i]?=some o:=by rw [List.getElem?_toArray];exact ho
 refine J6 M Wp (Region.noSelect_spec hn) hQ f2 (fun b hb ob hob=>aU hob ?_) _ _ _ _ hp (Region.free_spec Wp f1) (by simpa using h2) hpu (h hn h5)
 rcases f3 with f3 | f3
 ·rw [hp] at f3;cases f3
 ·exact f3 b hb
theorem lU {v:Value} (M:Oe R) (hh:hs.contains i=false) (hp:Ce bars Ca=false) (ho:l[i]?=some o) (hw:Region.wanted o (yielded l.toArray a.tmps)=true) (hQ:∀ c a w,Q (.panic c) (a.put o.dst v) w -> Q (.panic c) a w)
  (Re:∀ w',R w w' -> (execOp a.eval o).run P w'= .ok (.value v) w') (h:dm P l hs bars Q R rest (Ca.setIfInBounds i true) (a.put o.dst v) w):dm P l hs bars Q R (i :: rest) Ca a w :=
 GN M hh hp ho hQ (.inl ⟨hw, .inl Re⟩) h
theorem mU (M:Oe R) (hh:hs.contains i=false) (hp:Ce bars Ca=false) (ho:l[i]?=some o) (hw:Region.wanted o (yielded l.toArray a.tmps)=false) (hQ:∀ c a w,Q (.panic c) (a.put o.dst undef) w -> Q (.panic c) a w)
  (h:dm P l hs bars Q R rest (Ca.setIfInBounds i true) (a.put o.dst undef) w):dm P l hs bars Q R (i :: rest) Ca a w :=
 GN M hh hp ho hQ (.inr ⟨hw,rfl⟩) h
theorem Ic {a b:Prop} (h:a) (s:Imp a b:=by
 (repeat ((first | (apply Imp.via (mU (xa) rfl rfl rfl rfl (fun _ _ _ h=>h))) | (apply Imp.via (lU (v:=?_) (xa) rfl rfl rfl rfl (fun _ _ _ h=>h) ?hr);case hr=>(intro w' hR;(first | have Bn:=JH ((xa).trans _ _ _ ja hR) | skip);go_simp;try with_reducible rfl)));simp only [Act.put,zLa,zLb,zLc]))
 exact Imp.rfl'):b:=s h
theorem vc {v:Value} {f:FuncId} {vals:Array Value} (M:Oe R) (hh:hs.contains i=false) (hp:Ce bars Ca=false) (ho:l[i]?=some o) (hw:Region.wanted o (yielded l.toArray a.tmps)=true) (hQ:∀ c a w,Q (.panic c) (a.put o.dst v) w -> Q (.panic c) a w)
  (Re:∀ w,(execOp a.eval o).run P w= .ok (.enter f vals) w) (hc:∀ w',R w w' -> Calls P f vals w' fun e dh=>e= .returned v /\ R w' dh)
  (h:dm P l hs bars Q R rest (Ca.setIfInBounds i true) (a.put o.dst v) w):dm P l hs bars Q R (i :: rest) Ca a w :=
 GN M hh hp ho hQ (.inl ⟨hw, .inr ⟨f,vals,Re,hc⟩⟩) h
theorem I6 {v:Value} (hh:hs.contains i=false) (hp:Ce bars Ca=true) (ho:l[i]?=some o) (hw:Region.wanted o (yielded l.toArray a.tmps)=true) (hQ:∀ c a w,Q (.panic c) (a.put o.dst v) w -> Q (.panic c) a w)
  (Re:∀ w',(execOp a.eval o).run P w'= .ok (.value v) w') (h:dm P l hs bars Q R rest (Ca.setIfInBounds i true) (a.put o.dst v) w):dm P l hs bars Q R (i :: rest) Ca a w:=by
 intro hn Ta;obtain ⟨h1,h2,-,h4,h5⟩:=eE Ta;have Wp:l.toArray[i]?=some o:=by rw [List.getElem?_toArray];exact ho
 exact K6 Wp (Region.noSelect_spec hn) hQ _ _ _ _ hp (Region.free_spec Wp (h4 hh).1) (by simpa using h2) (.inl ⟨hw,fun w' _=>Re w'⟩) (h hn h5)
theorem Sc {a b:Prop} (h:a) (s:Imp a b:=by
 (repeat ((first | (apply Imp.via (mU (xa) rfl rfl rfl rfl (fun _ _ _ h=>h))) | (apply Imp.via (lU (v:=?_) (xa) rfl rfl rfl rfl (fun _ _ _ h=>h) ?hr);case hr=>(intro w' hR;(first | have Bn:=JH ((xa).trans _ _ _ ja hR) | skip);go_simp;try with_reducible rfl)) | (apply Imp.via (I6 (v:=?_) rfl rfl rfl rfl (fun _ _ _ h=>h) ?hr);case hr=>(intro w';go_simp;try with_reducible rfl)));simp only [Act.put,zLa,zLb,zLc]))
 exact Imp.rfl'):b:=s h
theorem Ph (hh:hs.contains i=true) (hp:Ce bars Ca=false) (ho:l[i]?=some o) (hw:Region.wanted o (yielded l.toArray a.tmps)=true)
  (h:∀ w1,R w w1 -> o.wp P a w1 (fun a' w'=>(Ce bars (Ca.setIfInBounds i true)=false -> R w1 w') /\ dm P l hs bars Q R rest (Ca.setIfInBounds i true) a' w') Q):dm P l hs bars Q R (i :: rest) Ca a w:=by
 intro hn Ta;obtain ⟨h1,-,h3,-,h5⟩:=eE Ta;have hr:=h3 hh;intro w1 ai;refine ⟨fun h0=>absurd (hr ▸ h0) (by simp),fun j hj=>?_⟩
 rw [hr,List.mem_singleton] at hj;subst hj;unfold wpOp;have hi:l.toArray[j]?=some o:=by rw [List.getElem?_toArray];exact ho
 simp only [hi,hw,if_true];exact .inl (Oper.wp_mono (fun a' w' h'=>⟨h'.1,h'.2 hn h5⟩) (h w1 (ai.out hp)))
end
theorem vd {P:Program} {l:List Oper} {hs:List Nat} {Q:Exit -> Act -> World -> Prop} {R:World -> World -> Prop} {Ca:Array Bool} {a:Act} {w:World} (M:Oe R) {order:List Nat} (h:∀ W,Hid (W=w) -> R w W -> fm P l hs Q R order Ca a W):fm P l hs Q R order Ca a w:=h w rfl (M.refl w)
abbrev Rr:=(Nat -> Value) -> (Nat -> Prop) -> World -> Prop
structure Ik where
 i:Nat
 deps:List Nat
 eat:List Nat
def Gf (l:List Oper) (j:Nat):Option Tmp:=(l[j]?).bind (·.dst)
def Ri (l:List Oper) (vs:Nat -> Value) (a:Act) (js:List Nat):Act:=js.foldl (fun a j=>a.put (Gf l j) (vs j)) a
def RC:List (Nat × Rr) -> Nat -> Rr
 | [],_=>fun _ _ _=>True
 | (k,p) :: r,j=>if Nat.beq k j then p else RC r j
theorem LR (l:List Oper) (vs:Nat -> Value) (d:Option Tmp) (v:Value):∀ (js:List Nat) (a:Act),(∀ j∈js,∀ t,d=some t -> Gf l j≠some t) -> Ri l vs (a.put d v) js=(Ri l vs a js).put d v
 | [],_,_=>rfl
 | j :: js,a,h=>by
  show Ri l vs ((a.put d v).put (Gf l j) (vs j)) js=_
  rw [Act.put_comm a v (vs j) (h j (by simp))]
  exact LR l vs d v js _ fun k hk=>h k (by simp [hk])
theorem MR (l:List Oper) {vs us:Nat -> Value}:∀ (js:List Nat) (a:Act),(∀ j∈js,vs j=us j) -> Ri l vs a js=Ri l us a js
 | [],_,_=>rfl
 | j :: js,a,h=>by
  show Ri l vs (a.put (Gf l j) (vs j)) js=Ri l us (a.put (Gf l j) (us j)) js
  rw [h j (by simp)]
  exact MR l js _ fun k hk=>h k (by simp [hk])
def Nh (vs:Nat -> Value) (i:Nat) (v:Value):Nat -> Value:=fun j=>if j=i then v else vs j
theorem VT (vs:Nat -> Value) (i:Nat) (v:Value):Nh vs i v i=v:=if_pos rfl
theorem tN {vs:Nat -> Value} {i j:Nat} {v:Value} (h:j≠i):Nh vs i v j=vs j:=if_neg h
theorem NR (l:List Oper) (vs:Nat -> Value) (i:Nat) (v:Value) (f f':Nat -> Bool):∀ (js:List Nat) (a:Act),js.Nodup -> i∈js -> f i=false -> f' i=true -> (∀ j∈js,j≠i -> f' j=f j) ->
  (∀ j∈js,j≠i -> ∀ t,Gf l i=some t -> Gf l j≠some t) -> Ri l (Nh vs i v) a (js.filter f')=(Ri l vs a (js.filter f)).put (Gf l i) v
 | [],_,_,h,_,_,_,_=>by cases h
 | j :: js,a,hn,hi,h0,h1,h2,h3=>by
  obtain ⟨hj,hn'⟩:=List.nodup_cons.1 hn;by_cases e:j=i
  ·subst e
   have hf:js.filter f'=js.filter f:=List.filter_congr fun k hk=>h2 k (by simp [hk]) (by rintro rfl;exact hj hk)
   rw [List.filter_cons_of_pos h1,List.filter_cons_of_neg (by rw [h0];exact Bool.false_ne_true),hf]
   show Ri l (Nh vs j v) (a.put (Gf l j) (Nh vs j v j)) _=_
   rw [VT,LR _ _ _ _ _ _ (fun k hk=>h3 k (by simp [(List.mem_filter.1 hk).1]) (by rintro rfl;exact hj (List.mem_filter.1 hk).1))]
   rw [MR l _ a fun k hk=>tN (by rintro rfl;exact hj (List.mem_filter.1 hk).1)]
  ·have hi':i∈js:=by
    rcases List.mem_cons.1 hi with h | h
    ·exact absurd h.symm e
    ·exact h
   have key:=fun a=>NR l vs i v f f' js a hn' hi' h0 h1 (fun k hk=>h2 k (by simp [hk])) fun k hk=>h3 k (by simp [hk])
   have e2:=h2 j (by simp) e
   cases hfj:f j
   ·rw [List.filter_cons_of_neg (by rw [e2,hfj];exact Bool.false_ne_true),List.filter_cons_of_neg (by rw [hfj];exact Bool.false_ne_true)]
    exact key a
   ·rw [List.filter_cons_of_pos (by rw [e2,hfj]),List.filter_cons_of_pos hfj]
    show Ri l (Nh vs i v) (a.put (Gf l j) (Nh vs i v j)) _=(Ri l vs (a.put (Gf l j) (vs j)) _).put _ _
    rw [tN e];exact key _
theorem dI (l:List Oper) (vs:Nat -> Value) (t:Tmp):∀ (js:List Nat) (a:Act),(∀ j∈js,Gf l j≠some t) -> (Ri l vs a js).eval (.tmp t)=a.eval (.tmp t)
 | [],_,_=>rfl
 | j :: js,a,h=>by
  show (Ri l vs (a.put (Gf l j) (vs j)) js).eval _=_
  rw [dI l vs t js _ fun k hk=>h k (by simp [hk])]
  exact Act.eval_put fun d hd he=>h j (by simp) (by rw [hd];injection he with he;rw [he])
theorem kM (l:List Oper) (vs:Nat -> Value) (t:Tmp) (j:Nat) (hd:Gf l j=some t):∀ (js:List Nat) (a:Act),j∈js -> (∀ k∈js,k≠j -> Gf l k≠some t) -> (Ri l vs a js).eval (.tmp t)=if t<a.tmps.size then vs j else undef
 | [],_,h,_=>by cases h
 | k :: js,a,h,Bb=>by
  show (Ri l vs (a.put (Gf l k) (vs k)) js).eval _=_
  by_cases hj:j∈js
  ·rw [kM l vs t j hd js _ hj fun m hm=>Bb m (by simp [hm])]
   have e:(a.put (Gf l k) (vs k)).tmps.size=a.tmps.size:=by cases h:Gf l k <;> simp [Act.put]
   rw [e]
  ·obtain rfl:j=k:=by
    rcases List.mem_cons.1 h with h | h
    ·exact h
    ·exact absurd h hj
   rw [dI l vs t js _ fun m hm=>Bb m (by simp [hm]) fun e=>hj (e ▸ hm),hd]
   by_cases ht:t<a.tmps.size <;> simp [Act.eval,Act.put,ht]
def Tm (B:Nat) (X:Nat -> Prop) (w w':World):Prop:=w'.os=w.os /\ w'.tape=w.tape /\ w'.output=w.output /\ w.heap.size <= w'.heap.size /\ ∀ b,b<B -> ¬X b -> w'.heap[b]?=w.heap[b]?
theorem LV {B:Nat} {X:Nat -> Prop} {a b c:World} (h:Tm B X a b) (k:Tm B X b c):Tm B X a c :=
 ⟨k.1.trans h.1,k.2.1.trans h.2.1,k.2.2.1.trans h.2.2.1,Nat.le_trans h.2.2.2.1 k.2.2.2.1,fun g h1 h2=>(k.2.2.2.2 g h1 h2).trans (h.2.2.2.2 g h1 h2)⟩
theorem KV (B:Nat) (X:Nat -> Prop) (w:World):Tm B X w w:=⟨rfl,rfl,rfl,zR,fun _ _ _=>rfl⟩
def Lq (B:Nat) (X:Nat -> Prop) (own:Nat -> Nat) (w:World) (i:Nat):Nat -> Prop:=fun b=>b<w.heap.size /\ (B <= b \/ X b) /\ own b=i
def Vi (P:Program) (x:Sem Next) (w:World) (K:Value -> World -> Prop):Prop :=
 (∃ v w',x.run P w= .ok (.value v) w' /\ K v w') \/ (∃ w',x.run P w= .ok .skip w' /\ K undef w') \/ (∃ f vals,x.run P w= .ok (.enter f vals) w /\ Calls P f vals w fun e w'=>∃ v,e= .returned v /\ K v w')
theorem EV {P:Program} {o:Oper} {a:Act} {w:World} {K:Act -> World -> Prop} {Q:Exit -> Act -> World -> Prop} (h:Vi P (execOp a.eval o) w fun v w'=>K (a.put o.dst v) w'):o.wp P a w K Q:=by
 unfold Oper.wp;rcases h with ⟨v,w',h1,h2⟩ | ⟨w',h1,h2⟩ | ⟨f,vals,h1,h2⟩
 ·rw [h1];exact h2
 ·rw [h1];exact h2
 ·rw [h1]
  refine Calls.mono h2 ?_;rintro e w' ⟨v,rfl,h3⟩;exact h3
theorem Jp {P:Program} {x:Sem Next} {w w':World} {K:Value -> World -> Prop} {v:Value} (h:x.run P w= .ok (.value v) w') (hK:K v w'):Vi P x w K:=.inl ⟨v,w',h,hK⟩
def nw (l:List Oper) (i j:Nat):Bool:=match l[i]? with | some o=>(o.after.any fun e=>Region.binds .any e&&e.on == j) | none=>false
def UH (l:List Oper) (i:Nat):List Tmp:=match l[i]? with | some o=>(o.op.operands.toList.filterMap fun | .tmp t=>some t | _=>none) | none=>[]
def OC (l:List Oper) (L0:Array Bool):List Nat -> List Nat -> Bool
 | _,[]=>true
 | pre,i :: rest=>(match l[i]? with | some o=>o.guard.isNone&&!L0.getD i true&&o.after.all (fun e=>!Region.binds .any e||L0.getD e.on false||(pre.contains e.on&&decide (e.on<l.length))) | none=>true)&&OC l L0 (i :: pre) rest
def RH (l:List Oper) (T:List Ik) (L0:Array Bool):Bool :=
 L0.size == l.length&&(T.map (·.i)).Nodup&&OC l L0 [] (T.map (·.i)) &&
 (T.all fun s=>T.all fun t=>s.i == t.i||(Gf l s.i).isNone||Gf l s.i != Gf l t.i) &&
 (T.all fun s=>(UH l s.i).all fun x=>T.all fun t=>Gf l t.i != some x||s.deps.contains t.i) &&
 (T.all fun s=>s.deps.all fun j=>(T.any fun t=>t.i == j)&&(decide (l.length <= j)||nw l s.i j)) &&
 (T.all fun s=>s.eat.all fun j=>s.deps.contains j&&T.all fun t=>t.i == s.i||!t.deps.contains j) &&
 ((List.range l.length).all fun i=>L0.getD i true||(T.any fun t=>t.i == i)||((T.all fun t=>decide (l.length <= t.i)||nw l i t.i)||(List.range l.length).any fun j=>!L0.getD j true&&!(T.any fun t=>t.i == j)&&nw l i j))
def LG (P:Program) (l:List Oper) (p:Nat -> Rr) (B:Nat) (X:Nat -> Prop) (w0:World) (a0:Act) (s:Ik):Prop :=
 ∀ (o:Oper),l[s.i]?=some o -> ∀ (w:World) (vs:Nat -> Value) (F:Nat -> Nat -> Prop),Tm B X w0 w -> (∀ j∈s.deps,p j vs (F j) w /\ ∀ b,F j b -> b<w.heap.size /\ (B <= b \/ X b)) -> (∀ j k b,j≠k -> F j b -> ¬F k b) ->
  Vi P (execOp (Ri l vs a0 (s.deps.filter (·<l.length))).eval o) w fun v w'=>Tm B X w w' /\ (∀ b,b<w.heap.size -> (∀ j∈s.eat,¬F j b) -> w'.heap[b]?=w.heap[b]?) /\ p s.i (Nh vs s.i v) (fun b=>(w.heap.size <= b /\ b<w'.heap.size) \/ ∃ j∈s.eat,F j b) w'
def uD (p:Nat -> Rr) (B:Nat) (X:Nat -> Prop) (w0:World) (s:Ik):Prop :=
 ∀ (vs us:Nat -> Value) (F:Nat -> Prop) (w w':World),Tm B X w0 w -> Tm B X w w' -> (∀ m∈s.i :: s.deps,us m=vs m) -> (∀ b,F b -> b<w.heap.size) -> (∀ b,F b -> w'.heap[b]?=w.heap[b]?) -> p s.i vs F w -> p s.i us F w'
section
variable {P:Program} {l:List Oper} {Q:Exit -> Act -> World -> Prop} {R:World -> World -> Prop} {T:List Ik} {p:Nat -> Rr} {B:Nat} {X:Nat -> Prop} {w0:World} {a0:Act} {L0:Array Bool}
structure IG (l:List Oper) (T:List Ik) (p:Nat -> Rr) (B:Nat) (X:Nat -> Prop) (w0:World) (a0:Act) (L0 L:Array Bool) (vs:Nat -> Value) (own:Nat -> Nat) (a:Act) (w:World):Prop where
 size:L.size=l.length
 old:∀ i:Nat,L0.getD i true=true -> L.getD i true=true
 new:∀ i:Nat,L.getD i true=true -> L0.getD i true=true \/ ∃ t∈T,t.i=i
 eff:Tm B X w0 w
 act:a=Ri l vs a0 ((T.map (·.i)).filter fun j=>L.getD j true&&!L0.getD j true)
 facts:∀ s∈T,L.getD s.i true=true -> (∀ k∈T,s.i∈k.eat -> L.getD k.i true=false) -> p s.i vs (Lq B X own w s.i) w
theorem YO {i j:Nat} (h:nw l i j=true):∃ o,l[i]?=some o /\ ∃ e∈o.after,Region.binds .any e=true /\ e.on=j:=by
 unfold nw at h;split at h
 ·rename_i o ho
  simp only [Array.any_eq_true] at h;obtain ⟨k,hk,he⟩:=h;simp only [Bool.and_eq_true,beq_iff_eq] at he;exact ⟨o,ho,o.after[k],Array.getElem_mem hk,he.1,he.2⟩
 ·cases h
theorem PC:∀ (js pre:List Nat),OC l L0 pre js=true -> ∀ i∈js,∀ o,l[i]?=some o -> o.guard=none /\ L0.getD i true=false
 | [],_,_,i,hi,_,_=>by cases hi
 | j :: js,pre,h,i,hi,o,ho=>by
  unfold OC at h;rw [Bool.and_eq_true] at h;rcases List.mem_cons.1 hi with rfl | hi
  ·have h1:=h.1
   rw [ho] at h1;simp only [Bool.and_eq_true,Bool.not_eq_true',Option.isNone_iff_eq_none] at h1;exact ⟨h1.1.1,h1.1.2⟩
  ·exact PC js _ h.2 i hi o ho
theorem ZQ {L:Array Bool} (hs:L.size=l.length) (h0:∀ i:Nat,L0.getD i true=true -> L.getD i true=true) (Nb:L0.size=l.length):∀ (js pre:List Nat),OC l L0 pre js=true -> (∀ i∈pre,L.getD i true=true) -> (∃ i∈js,L.getD i true=false) -> ∃ i∈js,i∈Region.ready .any l.toArray L
 | [],_,_,_,⟨i,hi,_⟩=>by cases hi
 | j :: js,pre,h,hp,hx=>by
  unfold OC at h;rw [Bool.and_eq_true] at h;cases hj:L.getD j true
  ·refine ⟨j,by simp,?_⟩
   have za:j<l.length:=by
    rcases Nat.lt_or_ge j l.length with h | h
    ·exact h
    ·rw [<- hs] at h
     simp [Nat.not_lt.2 h] at hj
   have ho:l[j]?=some l[j]:=List.getElem?_eq_getElem za;have h1:=h.1;rw [ho] at h1;simp only [Bool.and_eq_true] at h1;have h2:=h1.2;rw [Array.all_eq_true] at h2;refine mem_ready.2 ⟨hj,l[j],by rw [List.getElem?_toArray];exact ho,fun e he hb=>?_⟩
   obtain ⟨k,hk,rfl⟩:=Array.getElem_of_mem he;have h3:=h2 k hk;rw [hb] at h3;simp only [Bool.not_true,Bool.false_or,Bool.or_eq_true] at h3;have key:∀ n:Nat,n<l.length -> L.getD n true=true -> L.getD n false=true:=fun n hn h=>by
    rw [<- hs] at hn
    simpa [hn] using h
   rcases h3 with h3 | h3
   ·have hn:l.toArray[j].after[k].on<l.length:=by
     rcases Nat.lt_or_ge (l[j].after[k].on) l.length with h | h
     ·exact h
     ·rw [<- Nb] at h
      have qB:L0.getD (l[j].after[k].on) false=true:=h3;simp [Nat.not_lt.2 h] at qB
    refine key _ hn (h0 _ ?_);rw [<- Nb] at hn;have qB:L0.getD (l[j].after[k].on) false=true:=h3;have hn':l[j].after[k].on<L0.size:=hn;simp [hn'] at qB |-
    exact qB
   ·rw [Bool.and_eq_true,decide_eq_true_eq,List.contains_iff_mem] at h3
    exact key _ h3.2 (hp _ h3.1)
  ·obtain ⟨i,hi,h'⟩:=hx
   have Bb:i∈js:=by
    rcases List.mem_cons.1 hi with rfl | hi
    ·rw [hj] at h';cases h'
    ·exact hi
   obtain ⟨k,hk,hr⟩:=ZQ hs h0 Nb js (j :: pre) h.2 (by intro i hi;rcases List.mem_cons.1 hi with rfl | hi;exact hj;exact hp i hi) ⟨i,Bb,h'⟩
   exact ⟨k,by simp [hk],hr⟩
theorem SO {P:Program} {x:Sem Next} {w:World} {K K':Value -> World -> Prop} (h:∀ v w',K v w' -> K' v w') (hd:Vi P x w K):Vi P x w K':=by
 rcases hd with ⟨v,w',h1,h2⟩ | ⟨w',h1,h2⟩ | ⟨f,vals,h1,h2⟩
 ·exact .inl ⟨v,w',h1,h _ _ h2⟩
 ·exact .inr (.inl ⟨w',h1,h _ _ h2⟩)
 ·exact .inr (.inr ⟨f,vals,h1,h2.mono fun e w' ⟨v,he,hk⟩=>⟨v,he,h _ _ hk⟩⟩)
structure GG (l:List Oper) (T:List Ik) (L0:Array Bool):Prop where
 size:L0.size=l.length
 nodup:(T.map (·.i)).Nodup
 topo:OC l L0 [] (T.map (·.i))=true
 dst:∀ s∈T,∀ t∈T,s.i≠t.i -> ∀ x,Gf l s.i=some x -> Gf l t.i≠some x
 opers:∀ s∈T,∀ x∈UH l s.i,∀ t∈T,Gf l t.i=some x -> t.i∈s.deps
 deps:∀ s∈T,∀ j∈s.deps,(∃ t∈T,t.i=j) /\ (l.length <= j \/ nw l s.i j=true)
 eat:∀ s∈T,∀ j∈s.eat,j∈s.deps /\ ∀ t∈T,t.i≠s.i -> j ∉ t.deps
 tail:∀ i,i<l.length -> L0.getD i true=false -> (∀ t∈T,t.i≠i) -> (∀ t∈T,l.length <= t.i \/ nw l i t.i=true) \/ ∃ j,j<l.length /\ L0.getD j true=false /\ (∀ t∈T,t.i≠j) /\ nw l i j=true
theorem YQ (h:RH l T L0=true):GG l T L0:=by
 unfold RH at h;simp only [Bool.and_eq_true,List.all_eq_true,List.any_eq_true,Bool.or_eq_true,beq_iff_eq,decide_eq_true_eq,List.contains_iff_mem,bne_iff_ne,ne_eq,Bool.not_eq_true',Option.isNone_iff_eq_none] at h;obtain ⟨⟨⟨⟨⟨⟨⟨h1,h2⟩,h3⟩,h4⟩,h5⟩,h6⟩,h7⟩,h8⟩:=h;refine ⟨h1,h2,h3,?_,?_,?_,?_,?_⟩
 ·intro s hs t ht Bb x hx
  rcases h4 s hs t ht with (e | e) | e
  ·exact absurd e Bb
  ·rw [e] at hx;cases hx
  ·rw [hx] at e;exact fun e'=>e e'.symm
 ·intro s hs x hx t ht e
  rcases h5 s hs x hx t ht with h | h
  ·exact absurd e h
  ·exact h
 ·intro s hs j hj
  exact h6 s hs j hj
 ·intro s hs j hj
  obtain ⟨h,h'⟩:=h7 s hs j hj;refine ⟨h,fun t ht Bb hd=>?_⟩
  rcases h' t ht with e | e
  ·exact Bb e
  ·rw [<- Bool.not_eq_true,List.contains_iff_mem] at e
   exact e hd
 ·intro i hi h0 hT
  rcases h8 i (List.mem_range.2 hi) with (h | ⟨t,ht,e⟩) | h | ⟨j,hj,h⟩
  ·rw [h0] at h;cases h
  ·exact absurd e (hT t ht)
  ·exact .inl h
  ·refine .inr ⟨j,List.mem_range.1 hj,h.1.1,fun t ht e=>?_,h.2⟩
   have:=h.1.2;rw [<- Bool.not_eq_true,List.any_eq_true] at this;exact this ⟨t,ht,by rw [beq_iff_eq];exact e⟩
theorem TW {L:Array Bool} {i:Nat} (h:i<L.size) (a b:Bool):L.getD i a=L.getD i b:=by simp [h]
theorem sp {L:Array Bool} {i j:Nat}:(L.setIfInBounds i true).getD j true=true↔L.getD j true=true \/ j=i:=by
 by_cases e:i=j
 ·subst e
  by_cases h:i<L.size <;> simp [h]
 ·rw [getD_set_ne true e]
  exact ⟨.inl,fun h=>h.resolve_right fun h=>e h.symm⟩
theorem eT {L:Array Bool} {i j:Nat} (h:(L.setIfInBounds i true).getD j true=false):L.getD j true=false:=by
 cases hj:L.getD j true
 ·rfl
 ·have:=sp (i:=i).2 (.inl hj)
  rw [h] at this;cases this
def QC (own:Nat -> Nat) (w:World) (s:Ik):Nat -> Nat:=fun b=>if b<w.heap.size /\ own b ∉ s.eat then own b else s.i
structure FJ (l:List Oper) (T:List Ik) (L:Array Bool) (own:Nat -> Nat) (w:World):Prop where
 own:∀ b,b<w.heap.size -> L.getD (own b) true=true
 deps:∀ t∈T,L.getD t.i true=true -> ∀ j∈t.deps,L.getD j true=true
theorem rY (ok:GG l T L0) {L:Array Bool} {vs:Nat -> Value} {own:Nat -> Nat} {a:Act} {w:World} (Jf:Region.noSelect l.toArray=true) (I:IG l T p B X w0 a0 L0 L vs own a w) {s:Ik} (hs:s∈T) {o:Oper} (ho:l[s.i]?=some o) (hd:∀ j∈s.deps,L.getD j true=true) :
  execOp a.eval o=execOp (Ri l vs a0 (s.deps.filter (·<l.length))).eval o:=by
 refine execOp_congr o (fun cs b=>Region.noSelect_spec Jf s.i o cs b (by rw [List.getElem?_toArray];exact ho)) fun x hx=>?_
 cases x with
 | tmp t =>
  have ht:t∈UH l s.i:=by
   unfold UH;rw [ho];exact List.mem_filterMap.2 ⟨.tmp t,by simpa using hx,rfl⟩
  have hTs:∀ j∈T.map (·.i),Gf l j=some t -> j∈s.deps:=fun j hj e=>by
   obtain ⟨u,hu,rfl⟩:=List.mem_map.1 hj;exact ok.opers s hs t ht u hu e
  have hdd:∀ j∈s.deps,j∈T.map (·.i):=fun j hj=>by
   obtain ⟨⟨u,hu,e⟩,-⟩:=ok.deps s hs j hj;exact List.mem_map.2 ⟨u,hu,e⟩
  have huni:∀ j∈T.map (·.i),∀ k∈T.map (·.i),k≠j -> Gf l j=some t -> Gf l k≠some t:=fun j hj k hk Bb e=>by
   obtain ⟨u,hu,rfl⟩:=List.mem_map.1 hj;obtain ⟨v,hv,rfl⟩:=List.mem_map.1 hk;exact ok.dst u hu v hv (fun e=>Bb e.symm) t e
  have hlen:∀ j,Gf l j=some t -> j<l.length:=fun j e=>by
   rcases Nat.lt_or_ge j l.length with h | h
   ·exact h
   ·unfold Gf at e;rw [List.getElem?_eq_none h] at e;cases e
  rw [I.act];by_cases hex:∃ j∈s.deps,Gf l j=some t
  ·obtain ⟨j,hj,e⟩:=hex
   have hjT:=hdd j hj;have h0:L0.getD j true=false:=by
    obtain ⟨u,hu,rfl⟩:=List.mem_map.1 hjT;exact (PC _ _ ok.topo _ hjT _ (List.getElem?_eq_getElem (hlen _ e))).2
   rw [kM l vs t j e _ _ (List.mem_filter.2 ⟨hjT,by rw [hd j hj,h0];rfl⟩) fun k hk Bb=>huni j hjT k (List.mem_filter.1 hk).1 Bb e,
    kM l vs t j e _ _ (List.mem_filter.2 ⟨hj,by simpa using hlen j e⟩) fun k hk Bb=>huni j hjT k (hdd k (List.mem_filter.1 hk).1) Bb e]
  ·rw [dI l vs t _ _ fun j hj e=>hex ⟨j,hTs j (List.mem_filter.1 hj).1 e,e⟩,dI l vs t _ _ fun j hj e=>hex ⟨j,(List.mem_filter.1 hj).1,e⟩]
 | _=>rfl
theorem xY (ok:GG l T L0) {L:Array Bool} {vs:Nat -> Value} {own:Nat -> Nat} {a:Act} {w:World} (I:IG l T p B X w0 a0 L0 L vs own a w) (J:FJ l T L own w) (hB:B <= w0.heap.size)
  (jC:∀ s∈T,uD p B X w0 s) {s:Ik} (hs:s∈T) {o:Oper} (ho:l[s.i]?=some o) (hL:L.getD s.i true=false) (hd:∀ j∈s.deps,L.getD j true=true) {v:Value} {w':World}
  (he:Tm B X w w') (hk:∀ b,b<w.heap.size -> (∀ j∈s.eat,¬Lq B X own w j b) -> w'.heap[b]?=w.heap[b]?)
  (hp:p s.i (Nh vs s.i v) (fun b=>(w.heap.size <= b /\ b<w'.heap.size) \/ ∃ j∈s.eat,Lq B X own w j b) w') :
  IG l T p B X w0 a0 L0 (L.setIfInBounds s.i true) (Nh vs s.i v) (QC own w s) (a.put o.dst v) w' /\ FJ l T (L.setIfInBounds s.i true) (QC own w s) w':=by
 have Xw:s.i<l.length:=(List.getElem?_eq_some_iff.1 ho).1;have hoi:Gf l s.i=o.dst:=by simp [Gf,ho]
 have hsT:s.i∈T.map (·.i):=List.mem_map.2 ⟨s,hs,rfl⟩
 have hL0:L0.getD s.i true=false:=(PC _ _ ok.topo _ hsT _ ho).2;have Bb:∀ b,b<w.heap.size -> own b≠s.i:=fun b hb e=>by
  have:=J.own b hb;rw [e,hL] at this;cases this
 have YP:∀ t∈T,t.i=s.i -> t=s:=fun t ht e=>by
  have hn:=ok.nodup;obtain ⟨i,hi,rfl⟩:=List.getElem_of_mem ht;obtain ⟨j,hj,rfl⟩:=List.getElem_of_mem hs;have:=(List.getElem_inj (h₀:=by simpa using hi) (h₁:=by simpa using hj) hn).1 (by simpa using e)
  subst this
  rfl
 refine ⟨⟨by simp [I.size],fun i h=>sp.2 (.inl (I.old i h)),fun i h=>?_,LV I.eff he,?_,?_⟩,⟨fun b hb=>?_,fun t ht h j hj=>?_⟩⟩
 ·rcases sp.1 h with h | rfl
  ·exact I.new i h
  ·exact .inr ⟨s,hs,rfl⟩
 ·rw [I.act,<- hoi]
  refine (NR l vs s.i v _ _ _ a0 ok.nodup hsT (by rw [hL];rfl) (by rw [sp.2 (.inr rfl),hL0];rfl) (fun j _ Bb=>?_) (fun j hj Bb t e=>?_)).symm
  ·have:(L.setIfInBounds s.i true).getD j true=L.getD j true:=getD_set_ne true fun e=>Bb e.symm
   rw [this]
  ·obtain ⟨u,hu,rfl⟩:=List.mem_map.1 hj
   exact ok.dst s hs u hu (fun e=>Bb e.symm) t e
 ·intro t ht hLt hea
  by_cases e:t.i=s.i
  ·obtain rfl:=YP t ht e
   have e2:Lq B X (QC own w t) w' t.i=(fun b=>(w.heap.size <= b /\ b<w'.heap.size) \/ ∃ j∈t.eat,Lq B X own w j b):=by
    funext b
    apply propext
    unfold Lq QC;constructor
    ·rintro ⟨h1,h2,h3⟩
     rcases Nat.lt_or_ge b w.heap.size with h | h
     ·by_cases hm:own b∈t.eat
      ·exact .inr ⟨own b,hm,h,h2,rfl⟩
      ·rw [if_pos ⟨h,hm⟩] at h3
       exact absurd h3 (Bb b h)
     ·exact .inl ⟨h,h1⟩
    ·rintro (⟨h1,h2⟩ | ⟨j,hj,h1,h2,rfl⟩)
     ·exact ⟨h2, .inl (Nat.le_trans hB (Nat.le_trans I.eff.2.2.2.1 h1)),if_neg fun h=>by omega⟩
     ·exact ⟨Nat.lt_of_lt_of_le h1 he.2.2.2.1,h2,if_neg fun h=>h.2 hj⟩
   rw [e2];exact hp
  ·have hLt':L.getD t.i true=true:=(sp.1 hLt).resolve_right e
   have hte:t.i ∉ s.eat:=fun h=>by
    have:=hea s hs h;rw [sp.2 (.inr rfl)] at this;cases this
   have hf:=I.facts t ht hLt' fun k hk h=>eT (hea k hk h)
   have e2:Lq B X (QC own w s) w' t.i=Lq B X own w t.i:=by
    funext b
    apply propext
    unfold Lq QC;constructor
    ·rintro ⟨h1,h2,h3⟩
     by_cases hm:b<w.heap.size /\ own b ∉ s.eat
     ·rw [if_pos hm] at h3
      exact ⟨hm.1,h2,h3⟩
     ·rw [if_neg hm] at h3
      exact absurd h3.symm e
    ·rintro ⟨h1,h2,h3⟩
     rw [<- h3] at hte;exact ⟨Nat.lt_of_lt_of_le h1 he.2.2.2.1,h2,by rw [if_pos ⟨h1,hte⟩];exact h3⟩
   rw [e2];refine jC t ht vs _ _ w w' I.eff he (fun m hm=>tN fun e=>?_) (fun b hb=>hb.1) (fun b hb=>?_) hf
   ·subst e
    rcases List.mem_cons.1 hm with h | h
    ·exact ‹¬t.i=s.i› h.symm
    ·have:=J.deps t ht hLt' _ h
     rw [hL] at this;cases this
   ·refine hk b hb.1 fun j hj hO=>?_
    have:=hO.2.2;rw [hb.2.2] at this;exact hte (this ▸ hj)
 ·unfold QC
  split
  ·rename_i h
   exact sp.2 (.inl (J.own b h.1))
  ·exact sp.2 (.inr rfl)
 ·rcases sp.1 h with h | h
  ·exact sp.2 (.inl (J.deps t ht h j hj))
  ·obtain rfl:=YP t ht h
   exact sp.2 (.inl (hd j hj))
def Mq (T:List Ik) (L0:Array Bool):Array Bool:=T.foldl (fun L s=>L.setIfInBounds s.i true) L0
theorem fO:∀ (T:List Ik) (L0:Array Bool) (j:Nat),(Mq T L0).getD j true=true↔L0.getD j true=true \/ ∃ t∈T,t.i=j
 | [],L0,j=>by simp [Mq]
 | s :: T,L0,j=>by
  show (Mq T (L0.setIfInBounds s.i true)).getD j true=true↔_
  rw [fO T,sp];constructor
  ·rintro ((h | rfl) | ⟨t,ht,e⟩)
   ·exact .inl h
   ·exact .inr ⟨s,by simp,rfl⟩
   ·exact .inr ⟨t,by simp [ht],e⟩
  ·rintro (h | ⟨t,ht,e⟩)
   ·exact .inl (.inl h)
   ·rcases List.mem_cons.1 ht with rfl | ht
    ·exact .inl (.inr e.symm)
    ·exact .inr ⟨t,ht,e⟩
theorem gO:∀ (T:List Ik) (L0:Array Bool),(Mq T L0).size=L0.size
 | [],_=>rfl
 | s :: T,L0=>by
  show (Mq T (L0.setIfInBounds s.i true)).size=_
  rw [gO T];simp
theorem sY (M:Oe R) (Jf:Region.noSelect l.toArray=true) (ok:GG l T L0) (hB:B <= w0.heap.size) (hR:∀ w',Tm B X w0 w' -> R w0 w') (jC:∀ s∈T,uD p B X w0 s) (LF:∀ s∈T,LG P l p B X w0 a0 s) {fr:Nat}
  (Du:∀ (w:World) (vs:Nat -> Value) (F:Nat -> Nat -> Prop),Tm B X w0 w -> (∀ s∈T,(∀ k∈T,s.i ∉ k.eat) -> p s.i vs (F s.i) w /\ ∀ b,F s.i b -> b<w.heap.size /\ (B <= b \/ X b)) -> (∀ j k b,j≠k -> F j b -> ¬F k b) ->
   Ci P l.toArray Q R fr (Mq T L0) (Ri l vs a0 ((T.map (·.i)).filter (·<l.length))) w) :
  ∀ (n:Nat) (L:Array Bool) (vs:Nat -> Value) (own:Nat -> Nat) (a:Act) (w:World),(T.filter fun s=>!L.getD s.i true).length=n -> IG l T p B X w0 a0 L0 L vs own a w -> FJ l T L own w -> wpAnyH P .any l.toArray Q (R w0) (n+fr) L a w:=by
 intro n
 induction n with
 | zero =>
  intro L vs own a w hn I J;have rC:∀ t∈T,L.getD t.i true=true:=fun t ht=>by
   have:=List.eq_nil_of_length_eq_zero hn;rw [List.filter_eq_nil_iff] at this
   simpa using this t ht
  have hLe:L=Mq T L0:=by
   apply Array.ext
   ·rw [gO,I.size,ok.size]
   ·intro i h1 h2
    have e1:L.getD i true=L[i]:=by simp [h1]
    have e2:(Mq T L0).getD i true=(Mq T L0)[i]:=by simp [h2]
    rw [<- e1,<- e2,Bool.eq_iff_iff,fO];constructor
    ·exact I.new i
    ·rintro (h | ⟨t,ht,rfl⟩)
     ·exact I.old i h
     ·exact rC t ht
  have hact:a=Ri l vs a0 ((T.map (·.i)).filter (·<l.length)):=by
   rw [I.act]
   congr 1
   refine List.filter_congr fun j hj=>?_
   obtain ⟨t,ht,rfl⟩:=List.mem_map.1 hj;rw [rC t ht,Bool.true_and];rcases Nat.lt_or_ge t.i l.length with h | h
   ·rw [(PC _ _ ok.topo _ hj _ (List.getElem?_eq_getElem h)).2]
    simp [h]
   ·have:L0.getD t.i true=true:=by rw [<- ok.size] at h;simp [Nat.not_lt.2 h]
    rw [this];simp [Nat.not_lt.2 h]
  have hf:=Du w vs (Lq B X own w) I.eff (fun s hs Bb=>⟨I.facts s hs (rC s hs) fun k hk h=>absurd h (Bb k hk),fun b hb=>⟨hb.1,hb.2.1⟩⟩) (fun j k b Bb h1 h2=>Bb (h1.2.2.symm.trans h2.2.2))
  rw [Nat.zero_add,hLe,hact];exact WI (fun w2 h2=>M.trans _ _ _ (hR _ I.eff) h2) _ _ _ _ hf
 | succ n ih =>
  intro L vs own a w hn I J;have hex:∃ s∈T,L.getD s.i true=false:=by
   cases h:T.filter (fun s=>!L.getD s.i true) with
   | nil=>rw [h] at hn;cases hn
   | cons s r =>
    have:s∈T.filter (fun s=>!L.getD s.i true):=by rw [h];simp
    obtain ⟨h1,h2⟩:=List.mem_filter.1 this;exact ⟨s,h1,by simpa using h2⟩
  rw [show n+1+fr=(n+fr)+1 by omega]
  refine ⟨fun h=>?_,fun i hi=>?_⟩
  ·obtain ⟨s,hs,h'⟩:=hex
   obtain ⟨i,-,hi⟩:=ZQ I.size I.old ok.size _ _ ok.topo (by simp) ⟨s.i,List.mem_map.2 ⟨s,hs,rfl⟩,h'⟩
   rw [h] at hi;cases hi
  ·obtain ⟨hLi,o,ho,zw⟩:=mem_ready.1 hi
   rw [List.getElem?_toArray] at ho;have dt:i<l.length:=(List.getElem?_eq_some_iff.1 ho).1;have JK:∀ j,nw l i j=true -> L.getD j true=true:=fun j h=>by
    obtain ⟨o',ho',e,he,hb,rfl⟩:=YO h;rw [ho] at ho';obtain rfl:=Option.some.inj ho';have:=zw e he hb;rcases Nat.lt_or_ge e.on L.size with h | h
    ·rw [TW h true false];exact this
    ·simp [Nat.not_lt.2 h]
   have hT:∃ s∈T,s.i=i:=by
    refine Classical.byContradiction fun Vp=>?_
    have h0:L0.getD i true=false:=by
     cases h:L0.getD i true
     ·rfl
     ·have:=I.old i h;rw [hLi] at this;cases this
    rcases ok.tail i dt h0 (fun t ht e=>Vp ⟨t,ht,e⟩) with h | ⟨j,hj,h1,h2,h3⟩
    ·obtain ⟨s,hs,h'⟩:=hex
     rcases h s hs with h | h
     ·rw [<- I.size] at h
      simp [Nat.not_lt.2 h] at h'
     ·rw [JK _ h] at h';cases h'
    ·have h4:=JK _ h3
     rcases I.new j h4 with h | ⟨t,ht,e⟩
     ·rw [h1] at h;cases h
     ·exact h2 t ht e
   obtain ⟨s,hs,rfl⟩:=hT;have hd:∀ j∈s.deps,L.getD j true=true:=fun j hj=>by
    rcases (ok.deps s hs j hj).2 with h | h
    ·rw [<- I.size] at h;simp [Nat.not_lt.2 h]
    ·exact JK _ h
   have hg:=(PC _ _ ok.topo s.i (List.mem_map.2 ⟨s,hs,rfl⟩) o ho).1;unfold wpOp;rw [List.getElem?_toArray,ho];simp only [Region.wanted,hg,if_true];refine .inl (EV ?_);rw [rY ok Jf I hs ho hd];refine SO ?_ (LF s hs o ho w vs (Lq B X own w) I.eff (fun j hj=>⟨?_,fun b hb=>⟨hb.1,hb.2.1⟩⟩) fun j k b Bb h1 h2=>Bb (h1.2.2.symm.trans h2.2.2))
   ·rintro v w' ⟨he,hk,hp⟩
    obtain ⟨I',J'⟩:=xY ok I J hB jC hs ho hLi hd he hk hp;refine ⟨hR _ I'.eff,ih _ _ _ _ _ ?_ I' J'⟩;have e1:(T.filter fun t=>!(L.setIfInBounds s.i true).getD t.i true)=(T.filter fun t=>!L.getD t.i true).filter fun t=>t.i != s.i:=by
     rw [List.filter_filter];refine List.filter_congr fun t ht=>?_
     rw [Bool.eq_iff_iff];simp only [Bool.not_eq_true',Bool.and_eq_true,bne_iff_ne,ne_eq];constructor
     ·intro h
      refine ⟨fun e=>?_,eT h⟩
      rw [sp.2 (.inr e)] at h;cases h
     ·rintro ⟨h1,h2⟩
      cases h:(L.setIfInBounds s.i true).getD t.i true
      ·rfl
      ·rcases sp.1 h with h | h
       ·rw [h2] at h;cases h
       ·exact absurd h h1
    rw [e1];have:=UQ (T.filter fun t=>!L.getD t.i true) s.i ((List.Sublist.map _ List.filter_sublist).nodup ok.nodup) ⟨s,List.mem_filter.2 ⟨hs,by rw [hLi];rfl⟩,rfl⟩
    omega
   ·obtain ⟨⟨t,ht,rfl⟩,-⟩:=ok.deps s hs j hj
    refine I.facts t ht (hd _ hj) fun k hk h=>?_
    by_cases e:k.i=s.i
    ·rw [e];exact hLi
    ·exact absurd hj ((ok.eat k hk _ h).2 s hs fun e'=>e e'.symm)
where
 UQ:∀ (T:List Ik) (i:Nat),(T.map (·.i)).Nodup -> (∃ s∈T,s.i=i) -> (T.filter fun t=>t.i != i).length+1=T.length
  | [],_,_,⟨_,h,_⟩=>by cases h
  | t :: T,i,hn,⟨s,hs,e⟩=>by
   obtain ⟨h1,h2⟩:=List.nodup_cons.1 hn;by_cases ht:t.i=i
   ·rw [List.filter_cons_of_neg (by simp [ht])]
    have:T.filter (fun t=>t.i != i)=T:=List.filter_eq_self.2 fun u hu=>by
     rw [bne_iff_ne];intro e';exact h1 (List.mem_map.2 ⟨u,hu,e'.trans ht.symm⟩)
    rw [this];rfl
   ·rw [List.filter_cons_of_pos (by simpa using ht)]
    have:=UQ T i h2 (by
     rcases List.mem_cons.1 hs with rfl | hs
     ·exact absurd e ht
     ·exact ⟨s,hs,e⟩)
    simp only [List.length_cons];omega
theorem O6 (M:Oe R) (Jf:Region.noSelect l.toArray=true) (Ta:RH l T L0=true) (hB:B <= w0.heap.size) (hR:∀ w',Tm B X w0 w' -> R w0 w') (vs0:Nat -> Value) (Ck:Nat -> Nat) (hown0:∀ b,b<w0.heap.size -> l.length <= Ck b)
  (h0:∀ s∈T,l.length <= s.i -> p s.i vs0 (Lq B X Ck w0 s.i) w0) (jC:∀ s∈T,uD p B X w0 s) (LF:∀ s∈T,LG P l p B X w0 a0 s) {fr n:Nat} (hn:(T.filter (fun s=>!L0.getD s.i true)).length+fr=n)
  (Du:∀ (w:World) (vs:Nat -> Value) (F:Nat -> Nat -> Prop),Tm B X w0 w -> (∀ s∈T,(∀ k∈T,s.i ∉ k.eat) -> p s.i vs (F s.i) w /\ ∀ b,F s.i b -> b<w.heap.size /\ (B <= b \/ X b)) -> (∀ j k b,j≠k -> F j b -> ¬F k b) ->
   Ci P l.toArray Q R fr (Mq T L0) (Ri l vs a0 ((T.map (·.i)).filter (·<l.length))) w):Ci P l.toArray Q R n L0 a0 w0:=by
 have ok:=YQ Ta;have Rp:∀ j,l.length <= j -> L0.getD j true=true:=fun j h=>by rw [<- ok.size] at h;simp [Nat.not_lt.2 h]
 have hlow:∀ s∈T,L0.getD s.i true=true -> l.length <= s.i:=fun s hs h=>by
  rcases Nat.lt_or_ge s.i l.length with h1 | h1
  ·rw [(PC _ _ ok.topo _ (List.mem_map.2 ⟨s,hs,rfl⟩) _ (List.getElem?_eq_getElem h1)).2] at h;cases h
  ·exact h1
 subst hn;refine sY M Jf ok hB hR jC LF Du _ L0 vs0 Ck a0 w0 rfl ⟨ok.size,fun _ h=>h,fun _ h=>.inl h,KV _ _ _,?_,fun s hs h _=>h0 s hs (hlow s hs h)⟩ ⟨fun b hb=>Rp _ (hown0 b hb),fun t ht h j hj=>?_⟩
 ·have:(T.map (·.i)).filter (fun j=>L0.getD j true&&!L0.getD j true)=[]:=List.filter_eq_nil_iff.2 fun j _=>by cases L0.getD j true <;> simp
  rw [this]
  rfl
 ·rcases (ok.deps t ht j hj).2 with h' | h'
  ·exact Rp j h'
  ·obtain ⟨o,ho,-⟩:=YO h'
   have:=hlow t ht h;rw [List.getElem?_eq_none this] at ho;cases ho
end
end Go.Proofs.YtgeofabpinfcmaaGreat
