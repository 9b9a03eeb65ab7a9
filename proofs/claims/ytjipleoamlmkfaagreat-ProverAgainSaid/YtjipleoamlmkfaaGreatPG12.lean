/- A part of the proof. No condition. -/
import Derived.Test.YtjipleoamlmkfaaGreatProg
import Derived.Test.YtjipleoamlmkfaaGreatPG5
import Derived.Shelf.Spec.BitsCarry
import Derived.Test.YtjipleoamlmkfaaGreatPG6
import Derived.Test.YtjipleoamlmkfaaGreatPG9
import Derived.Laws.OwnMore
import Derived.Test.YtjipleoamlmkfaaGreatPG11

set_option maxRecDepth 100000
set_option maxHeartbeats 8000000
set_option linter.unusedVariables false
set_option linter.unusedSimpArgs false
namespace Go.Proofs.YtjipleoamlmkfaaGreat
open Go.RowKit
def Yb (bars:List Nat) (ta:Array Bool):Bool:=bars.any fun b=>ta.getD b true
theorem ou {bars:List Nat} {ta:Array Bool} {j:Nat} (h:j ∉ bars):Yb bars (ta.setIfInBounds j true)=Yb bars ta:=by
 unfold Yb
 induction bars with
 | nil=>rfl
 | cons b r ih =>
  simp only [List.mem_cons,not_or] at h;simp only [List.any_cons];rw [getD_set_ne true h.1,ih h.2]
section
variable {P:Program} {ops:Array Oper} {Q:Exit -> Act -> World -> Prop} {bars:List Nat} {S:World -> Prop}
def Cs (P:Program) (ops:Array Oper) (Q:Exit -> Act -> World -> Prop) (bars:List Nat) (S:World -> Prop):Nat -> Array Bool -> Act -> World -> Prop
 | 0,ta,a,w=>Region.ready .any ops ta=[] /\ Q .normal a w
 | fuel+1,ta,a,w =>
  (Region.ready .any ops ta=[] -> Q .normal a w) /\
  ∀ i∈Region.ready .any ops ta,wpOp P ops Q i (fun a' w'=>(Yb bars (ta.setIfInBounds i true)=false -> S w') /\ Cs P ops Q bars S fuel (ta.setIfInBounds i true) a' w') a w
theorem SF:∀ (fuel:Nat) (ta:Array Bool) (a:Act) (w:World),Cs P ops Q bars S fuel ta a w -> wpAny P .any ops Q fuel ta a w
 | 0,_,_,_,h=>h
 | fuel+1,_,_,_,h=>⟨h.1,fun i hi=>wpOp_mono (fun a' w' h'=>SF fuel _ a' w' h'.2) (h.2 i hi)⟩
theorem RF {S':World -> Prop} (hS:∀ w,S' w -> S w):∀ (fuel:Nat) (ta:Array Bool) (a:Act) (w:World),Cs P ops Q bars S' fuel ta a w -> Cs P ops Q bars S fuel ta a w
 | 0,_,_,_,h=>h
 | fuel+1,_,_,_,h=>⟨h.1,fun i hi=>wpOp_mono (fun a' w' h'=>⟨fun hp=>hS _ (h'.1 hp),RF hS fuel _ a' w' h'.2⟩) (h.2 i hi)⟩
theorem Cz {ta:Array Bool} {i:Nat} (h:Yb bars ta=true):Yb bars (ta.setIfInBounds i true)=true:=by
 unfold Yb at *;rw [List.any_eq_true] at *;obtain ⟨b,hb,h1⟩:=h;refine ⟨b,hb,?_⟩;by_cases e:i=b
 ·subst e
  rcases Nat.lt_or_ge i ta.size with h2 | h2
  ·simp [h2]
  ·simp [Nat.not_lt.2 h2]
 ·rw [getD_set_ne true e];exact h1
theorem QF {S':World -> Prop}:∀ (fuel:Nat) (ta:Array Bool) (a:Act) (w:World),Yb bars ta=true -> Cs P ops Q bars S' fuel ta a w -> Cs P ops Q bars S fuel ta a w
 | 0,_,_,_,_,h=>h
 | fuel+1,_,_,_,hp,h=>⟨h.1,fun i hi=>wpOp_mono (fun a' w' h'=>⟨fun qn=>(by rw [Cz hp] at qn;cases qn),QF fuel _ a' w' (Cz hp) h'.2⟩) (h.2 i hi)⟩
theorem Ww {T:World -> Prop} {i:Nat} {oi:Oper} {v:Value} (hi:ops[i]?=some oi) (Kd:∀ (j:Nat) (o:Oper) cs b,ops[j]?=some o -> o.op≠.select cs b)
  (hQ:∀ c a w,Q (.panic c) (a.put oi.dst v) w -> Q (.panic c) a w) (hib:i ∉ bars)
  (hT:(∀ w,T w) \/ ((∀ w,S w -> T w) /\ ∀ b∈bars,∀ ob,ops[b]?=some ob -> ∃ e∈ob.after,Region.binds .any e=true /\ e.on=i)) :
  ∀ (fuel:Nat) (ta:Array Bool) (a:Act) (w:World),((∀ w,T w) \/ Yb bars ta=false) ->
   (∀ j oj,ops[j]?=some oj -> j≠i -> ta.getD j true=false -> (∀ e∈oj.after,Region.binds .any e=true -> e.on≠i) -> oi.apart ops oj=true) ->
   i∈Region.ready .any ops ta -> YieldsIf P ops T oi v a -> T w -> (Yb bars ta=false -> S w) ->
   Cs P ops Q bars S fuel (ta.setIfInBounds i true) (a.put oi.dst v) w -> Cs P ops Q bars S (fuel+1) ta a w:=by
 intro fuel
 induction fuel with
 | zero =>
  intro ta a w Wh _ hr hy hTw hS H;refine ⟨fun h=>(by rw [h] at hr;cases hr),fun j hj=>?_⟩
  by_cases He:j=i
  ·subst He;exact hy.wpOp hi hTw ⟨fun hp=>hS (by rwa [ou hib] at hp),H⟩
  ·have:=ready_mono hj He
   rw [H.1] at this;cases this
 | succ fuel ih =>
  intro ta a w Wh Gt hr hy hTw hS H;refine ⟨fun h=>(by rw [h] at hr;cases hr),fun j hj=>?_⟩
  by_cases He:j=i
  ·subst He;exact hy.wpOp hi hTw ⟨fun hp=>hS (by rwa [ou hib] at hp),H⟩
  ·have h1:=H.2 j (ready_mono hj He)
   obtain ⟨Nt,oj,Ie,Te⟩:=mem_ready.1 hj;have gw:∀ e∈oj.after,Region.binds .any e=true -> e.on≠i:=fun e he hb heq=>by
    have h1:=Te e he hb;have h0:=(mem_ready.1 hr).1;rw [heq] at h1;rcases Nat.lt_or_ge i ta.size with h' | h'
    ·simp [h'] at h0 h1;rw [h0] at h1;cases h1
    ·simp [Array.getElem?_eq_none h'] at h1
   have h2:=wpOp_putIf Ie (Gt j oj Ie He Nt gw) (fun cs b=>Kd i oi cs b hi) (fun cs b=>Kd j oj cs b Ie) hQ hy h1
   have Zy:∀ k ok,ops[k]?=some ok -> k≠i -> (ta.setIfInBounds j true).getD k true=false ->
     (∀ e∈ok.after,Region.binds .any e=true -> e.on≠i) -> oi.apart ops ok=true:=fun k ok hk Xq Yt pn=>by
    refine Gt k ok hk Xq ?_ pn;by_cases Mt:j=k
    ·subst Mt;exact Nt
    ·rw [getD_set_ne true Mt] at Yt;exact Yt
   have fp:Yb bars ((ta.setIfInBounds i true).setIfInBounds j true)=Yb bars (ta.setIfInBounds j true):=by
    rw [Array.setIfInBounds_comm _ _ (Ne.symm He),ou hib]
   refine wpOp_mono (fun a' w' h3=>?_) h2
   have yt:Yb bars (ta.setIfInBounds j true)=false -> S w':=fun hp=>h3.2.1 (by rw [fp];exact hp)
   have LH:((∀ w,T w) \/ Yb bars (ta.setIfInBounds j true)=false) /\ T w':=by
    rcases hT with hT | ⟨hST,JD⟩
    ·exact ⟨.inl hT,hT w'⟩
    ·rcases Wh with Wh | Wh
     ·exact ⟨.inl Wh,Wh w'⟩
     ·have hjb:j ∉ bars:=fun hb=>by
       obtain ⟨e,he,Ct,hei⟩:=JD j hb oj Ie;exact gw e he Ct hei
      have qn:Yb bars (ta.setIfInBounds j true)=false:=by rw [ou hjb];exact Wh
      exact ⟨.inr qn,hST _ (yt qn)⟩
   refine ⟨yt,ih (ta.setIfInBounds j true) a' w' LH.1 Zy (ready_mono hr (Ne.symm He)) h3.1 LH.2 yt ?_⟩;rw [Array.setIfInBounds_comm _ _ He];exact h3.2.2
end
def wpB (P:Program) (ops:Array Oper) (Q:Exit -> Act -> World -> Prop) (bars:List Nat) (R:World -> World -> Prop) (fuel:Nat) (ta:Array Bool) (a:Act) (w:World):Prop :=
 Cs P ops Q bars (R w) fuel ta a w
def iy (l:List Oper) (b i:Nat):Bool:=match l[b]? with | some o=>o.after.any fun e=>Region.binds .any e&&e.on == i | none=>true
def On (l:List Oper) (hs bars:List Nat):List Nat -> Array Bool -> Bool
 | [],ta=>(Region.ready .any l.toArray ta).isEmpty
 | i :: rest,ta=>decide (i<l.length)&&(Region.ready .any l.toArray ta).contains i &&
   (if hs.contains i then Region.ready .any l.toArray ta == [i] else Region.free .any l.toArray ta i&&!bars.contains i&&(Yb bars ta||bars.all fun b=>iy l b i))&&On l hs bars rest (ta.setIfInBounds i true)
def jm (P:Program) (l:List Oper) (hs bars:List Nat) (Q:Exit -> Act -> World -> Prop) (R:World -> World -> Prop) (order:List Nat) (ta:Array Bool) (a:Act) (w:World):Prop :=
 Region.noSelect l.toArray=true -> On l hs bars order ta=true -> wpB P l.toArray Q bars R order.length ta a w
section
variable {P:Program} {l:List Oper} {hs bars:List Nat} {Q:Exit -> Act -> World -> Prop} {R:World -> World -> Prop} {rest:List Nat} {i:Nat} {o:Oper} {ta:Array Bool} {a:Act} {w:World}
theorem Zw {id:Nat} (R:World -> World -> Prop) (hs bars order:List Nat) (hm:P.follows .mixedOrders=true) (Ia:(Region.noSelect l.toArray&&order.length == l.length&&On l hs bars order (List.replicate l.length false).toArray)=true)
  (h:jm P l hs bars Q R order (List.replicate l.length false).toArray a w.drew):(Code.region id l.toArray true).wp P Q a w:=by
 simp only [Bool.and_eq_true,beq_iff_eq] at Ia;refine wp_region_any hm (SF (bars:=bars) (S:=R w.drew) _ _ _ _ ?_);have h2:=h Ia.1.1 Ia.2;have e:Array.replicate l.toArray.size false=(List.replicate l.length false).toArray:=by simp
 rw [Ia.1.2] at h2;rw [e]
 simpa [wpB] using h2
theorem bx (M:uc R) {order:List Nat} (h:∀ W,Hid (W=w) -> R w W -> jm P l hs bars Q R order ta a W):jm P l hs bars Q R order ta a w:=h w rfl (M.refl w)
theorem ax (h:Q .normal a w):jm P l hs bars Q R [] ta a w:=fun _ Ia=>⟨by simpa [On] using Ia,h⟩
theorem Nx (h:On l hs bars (i :: rest) ta=true):i<l.length /\ (Region.ready .any l.toArray ta).contains i=true /\
  (hs.contains i=true -> Region.ready .any l.toArray ta=[i]) /\
  (hs.contains i=false -> Region.free .any l.toArray ta i=true /\ i ∉ bars /\ (Yb bars ta=true \/ ∀ b∈bars,iy l b i=true)) /\ On l hs bars rest (ta.setIfInBounds i true)=true:=by
 unfold On at h;simp only [Bool.and_eq_true,decide_eq_true_eq] at h;obtain ⟨⟨⟨h1,h2⟩,h3⟩,h4⟩:=h;refine ⟨h1,h2,fun h6=>?_,fun h6=>?_,h4⟩
 ·rw [if_pos h6] at h3
  simpa using h3
 ·rw [if_neg (by rw [h6];exact Bool.noConfusion)] at h3
  simp only [Bool.and_eq_true,Bool.not_eq_true',Bool.or_eq_true,List.all_eq_true] at h3;refine ⟨h3.1.1,fun hm=>?_,h3.2⟩
  have:=h3.1.2;simp [hm] at this
theorem LF {b:Nat} {ob:Oper} (hb:l.toArray[b]?=some ob) (h:iy l b i=true):∃ e∈ob.after,Region.binds .any e=true /\ e.on=i:=by
 unfold iy at h;rw [List.getElem?_toArray] at hb;rw [hb] at h;simp only [Array.any_eq_true] at h;obtain ⟨k,hk,he⟩:=h;simp only [Bool.and_eq_true,beq_iff_eq] at he;exact ⟨ob.after[k],Array.getElem_mem hk,he.1,he.2⟩
theorem XF {v:Value} (M:uc R) (hh:hs.contains i=false) (ho:l[i]?=some o) (hw:Region.wanted o (yielded l.toArray a.tmps)=true) (hQ:∀ c a w,Q (.panic c) (a.put o.dst v) w -> Q (.panic c) a w)
  (Xb:∀ w',(Yb bars ta=false -> R w w') -> (execOp a.eval o).run P w'= .ok (.value v) w') (h:jm P l hs bars Q R rest (ta.setIfInBounds i true) (a.put o.dst v) w):jm P l hs bars Q R (i :: rest) ta a w:=by
 intro hn Ia;obtain ⟨h1,h2,-,h4,h5⟩:=Nx Ia;obtain ⟨f1,f2,f3⟩:=h4 hh;have Cf:l.toArray[i]?=some o:=by rw [List.getElem?_toArray];exact ho
 cases hp:Yb bars ta
 ·refine Ww (T:=R w) Cf (Region.noSelect_spec hn) hQ f2 (.inr ⟨fun _ h=>h,fun b hb ob hob=>LF hob ?_⟩) _ _ _ _ (.inr hp) (Region.free_spec Cf f1) (by simpa using h2) (.inl ⟨hw,fun w' hR=>Xb w' fun _=>hR⟩) (M.refl w) (fun _=>M.refl w) (h hn h5)
  rcases f3 with f3 | f3
  ·rw [hp] at f3;cases f3
  ·exact f3 b hb
 ·exact Ww (T:=fun _=>True) Cf (Region.noSelect_spec hn) hQ f2 (.inl fun _=>trivial) _ _ _ _ (.inl fun _=>trivial) (Region.free_spec Cf f1) (by simpa using h2) (.inl ⟨hw,fun w' _=>Xb w' fun h=>by rw [hp] at h;cases h⟩) trivial (fun _=>M.refl w) (h hn h5)
theorem YF (M:uc R) (hh:hs.contains i=false) (ho:l[i]?=some o) (hw:Region.wanted o (yielded l.toArray a.tmps)=false) (hQ:∀ c a w,Q (.panic c) (a.put o.dst undef) w -> Q (.panic c) a w)
  (h:jm P l hs bars Q R rest (ta.setIfInBounds i true) (a.put o.dst undef) w):jm P l hs bars Q R (i :: rest) ta a w:=by
 intro hn Ia;obtain ⟨h1,h2,-,h4,h5⟩:=Nx Ia;obtain ⟨f1,f2,f3⟩:=h4 hh;have Cf:l.toArray[i]?=some o:=by rw [List.getElem?_toArray];exact ho
 exact Ww (T:=fun _=>True) Cf (Region.noSelect_spec hn) hQ f2 (.inl fun _=>trivial) _ _ _ _ (.inl fun _=>trivial) (Region.free_spec Cf f1) (by simpa using h2) (.inr ⟨hw,rfl⟩) trivial (fun _=>M.refl w) (h hn h5)
theorem bG {a b:Prop} (h:a) (s:Imp a b:=by
 (repeat ((first | (apply Imp.via (YF (pa) rfl rfl rfl (fun _ _ _ h=>h))) | (apply Imp.via (XF (v:=?_) (pa) rfl rfl rfl (fun _ _ _ h=>h) ?hr);case hr=>(intro w' hR;(first | have yi:=rz ((pa).trans _ _ _ da (hR rfl)) | skip);clear hR;go_simp;try with_reducible rfl)));simp only [Act.put,zLa,zLb,zLc]))
 exact Imp.rfl'):b:=s h
theorem og (M:uc R) (hh:hs.contains i=true) (ho:l[i]?=some o) (hw:Region.wanted o (yielded l.toArray a.tmps)=true)
  (h:o.wp P a w (fun a' w'=>(Yb bars (ta.setIfInBounds i true)=false -> R w w') /\ jm P l hs bars Q R rest (ta.setIfInBounds i true) a' w') Q):jm P l hs bars Q R (i :: rest) ta a w:=by
 intro hn Ia;obtain ⟨h1,h2,h3,-,h5⟩:=Nx Ia;have hr:=h3 hh;refine ⟨fun h0=>absurd (hr ▸ h0) (by simp),fun j hj=>?_⟩
 rw [hr,List.mem_singleton] at hj;subst hj;unfold wpOp;have hi:l.toArray[j]?=some o:=by rw [List.getElem?_toArray];exact ho
 simp only [hi,hw,if_true];refine .inl (Oper.wp_mono (fun a' w' h'=>⟨h'.1,?_⟩) h)
 have hk:=h'.2 hn h5;cases hp:Yb bars (ta.setIfInBounds j true)
 ·exact RF (fun w2 h2=>M.trans _ _ _ (h'.1 hp) h2) _ _ _ _ hk
 ·exact QF _ _ _ _ hp hk
theorem Oz {f:FuncId} {vals:Array Value} (M:uc R) (hh:hs.contains i=true) (ho:l[i]?=some o) (hw:Region.wanted o (yielded l.toArray a.tmps)=true)
  (Xb:∀ w,(execOp a.eval o).run P w= .ok (.enter f vals) w)
  (h:Calls P f vals w fun e w'=>∃ v,e= .returned v /\ (Yb bars (ta.setIfInBounds i true)=false -> R w w') /\ jm P l hs bars Q R rest (ta.setIfInBounds i true) (a.put o.dst v) w'):jm P l hs bars Q R (i :: rest) ta a w:=by
 refine og M hh ho hw ?_;unfold Oper.wp;rw [Xb w];refine Calls.mono h ?_;rintro e w' ⟨v,rfl,h1,h2⟩;exact ⟨h1,h2⟩
end
def mi (g N:Nat) (w w':World):Prop:=w'.os=w.os /\ w'.tape=w.tape /\ w'.output=w.output /\ w.heap.size <= w'.heap.size /\ ∀ b,b<N -> b≠g -> w'.heap[b]?=w.heap[b]?
theorem sb (g N:Nat):uc (mi g N):=⟨fun _=>⟨rfl,rfl,rfl,zR,fun _ _ _=>rfl⟩,fun _ _ _ h k=>⟨k.1.trans h.1,k.2.1.trans h.2.1,k.2.2.1.trans h.2.2.1,Nat.le_trans h.2.2.2.1 k.2.2.2.1,fun b h1 h2=>(k.2.2.2.2 b h1 h2).trans (h.2.2.2.2 b h1 h2)⟩⟩
theorem EH {g N:Nat} {w w':World} (h:mi g N w.drew w'):∀ b o,b<N -> b≠g -> w'.cell? ⟨b,o,none⟩=w.cell? ⟨b,o,none⟩:=fun b o hb Ka=>by
 have:=h.2.2.2.2 b hb Ka;simp only [World.cell?,this]
 rfl
theorem zLL7 {a b:Prop} (h:a) (s:Imp a b:=by
 (repeat ((first | (apply Imp.via (Yw (sb _ _) rfl rfl (fun _ _ _ h=>h))) | (apply Imp.via (Xw (v:=?_) (sb _ _) rfl rfl (fun _ _ _ h=>h) ?hr);case hr=>(intro w' hR;(first | have yi:=EH ((sb _ _).trans _ _ _ da hR) | skip);go_simp;try with_reducible rfl)));simp only [Act.put,zLa,zLb,zLc]))
 exact Imp.rfl'):b:=s h
theorem qg {a b:Prop} (h:a) (s:Imp a b:=by
 (repeat ((first | (apply Imp.via (YF (sb _ _) rfl rfl rfl (fun _ _ _ h=>h))) | (apply Imp.via (XF (v:=?_) (sb _ _) rfl rfl rfl (fun _ _ _ h=>h) ?hr);case hr=>(intro w' hR;(first | have yi:=EH ((sb _ _).trans _ _ _ da (hR rfl)) | skip);clear hR;go_simp;try with_reducible rfl)));simp only [Act.put,zLa,zLb,zLc]))
 exact Imp.rfl'):b:=s h
theorem yf {g N B:Nat} {w w':World} (h:Below B w w') (hN:N <= B):mi g N w w':=⟨h.os,h.tape,h.output,h.size,fun b hb _=>h.block b (by omega)⟩
theorem zx {g N:Nat} {w w':World} (h:w.grownBy w' (some g)) (hN:N <= w.heap.size):mi g N w w':=⟨h.os,h.tape,h.output,h.size,fun b hb Ka=>h.block b (by omega) (fun e=>Ka (Option.some.inj e))⟩
theorem Gq {g N:Nat} {w w':World} {row:Option Nat} (h:w.grownBy w' row) (hN:N <= w.heap.size) (hr:∀ k,row=some k -> N <= k):mi g N w w':=⟨h.os,h.tape,h.output,h.size,fun b hb _=>h.block b (by omega) (fun e=>by have:=hr b e.symm;omega)⟩
theorem Om {B:Nat} {w0 w1 w2:World} (h1:Below B w0 w1) (h2:Below w1.heap.size w1 w2) (hB:B <= w1.heap.size:=by omega):Below B w0 w2:=h1.trans (h2.mono hB)
theorem oJ {g:Nat} {w w':World} (h:Below w.heap.size w w'):tg g w w':=Uh (Lc w _) h zR
theorem PG {w w':World} {p:Addr} {v:Value} (h:Below w.drew.heap.size w.drew w') (hc:w.cell? p=some v):w'.cell? p=some v:=(Below.cell h (World.block_lt_of_cell? _ _ hc)).trans hc
theorem ah (w:World) (t1 t2:TypeId) (Bc ed:Array Value) :
  Blk ((w.alloc (.cells Bc t1)).alloc (.cells ed t2)) w.heap.size t1 Bc /\ Blk ((w.alloc (.cells Bc t1)).alloc (.cells ed t2)) (w.heap.size+1) t2 ed /\ Below w.heap.size w ((w.alloc (.cells Bc t1)).alloc (.cells ed t2)) /\ ((w.alloc (.cells Bc t1)).alloc (.cells ed t2)).heap.size=w.heap.size+2:=by
 refine ⟨(Blk.new w t1 Bc).alloc _,?_,((Below.refl _ w).alloc zR _).alloc (by simp) _,by simp⟩
 have:=Blk.new (w.alloc (.cells Bc t1)) t2 ed
 simpa using this
theorem Bl (w:World) (t1 t2 t3:TypeId) (Bc ed Mf:Array Value) :
  Blk (((w.alloc (.cells Bc t1)).alloc (.cells ed t2)).alloc (.cells Mf t3)) w.heap.size t1 Bc /\ Blk (((w.alloc (.cells Bc t1)).alloc (.cells ed t2)).alloc (.cells Mf t3)) (w.heap.size+1) t2 ed /\ Blk (((w.alloc (.cells Bc t1)).alloc (.cells ed t2)).alloc (.cells Mf t3)) (w.heap.size+1+1) t3 Mf /\
   Below w.heap.size w (((w.alloc (.cells Bc t1)).alloc (.cells ed t2)).alloc (.cells Mf t3)) /\ (((w.alloc (.cells Bc t1)).alloc (.cells ed t2)).alloc (.cells Mf t3)).heap.size=w.heap.size+3:=by
 obtain ⟨h1,h2,h3,h4⟩:=ah w t1 t2 Bc ed;refine ⟨h1.alloc _,h2.alloc _,?_,h3.alloc h3.size _,by simp⟩
 have:=Blk.new ((w.alloc (.cells Bc t1)).alloc (.cells ed t2)) t3 Mf
 rwa [h4] at this
theorem Ji {w:World} {g:Nat} {t:TypeId} {y0 y1 y2:Value} (k:Blk w g t #[y0,y1,y2]) (x0 x1 x2:Value):Blk (((w.setCell ⟨g,0,none⟩ x0).setCell ⟨g,1,none⟩ x1).setCell ⟨g,2,none⟩ x2) g t #[x0,x1,x2]:=by
 have h:=(((k.set_ 0 x0).set_ 1 x1).set_ 2 x2)
 simpa using h
theorem Ki {w:World} {g:Nat} (x0 x1 x2:Value):w.grownBy (((w.setCell ⟨g,0,none⟩ x0).setCell ⟨g,1,none⟩ x1).setCell ⟨g,2,none⟩ x2) (some g):=by
 iterate 3 refine Yd ?_ (.inl rfl) _
 exact Lc w _
theorem Nh {g B:Nat} {a w:World} (h:a.grownBy w (some g)) (hB:B <= a.heap.size) (hg:B <= g):Below B a w:=Fo h B hB fun _ e=>by have:=Option.some.inj e;omega
theorem yc {g:Nat} {a b c:World} (h:Below a.heap.size a b) (k:b.grownBy c (some g)) (e:a.heap.size <= g:=by omega):Below a.heap.size a c:=h.trans (Nh k h.size e)
section
variable {P:Program} {ops:Array Oper} {Q:Exit -> Act -> World -> Prop} {R:World -> World -> Prop}
def PureRun (P:Program) (R:World -> World -> Prop) (W:World) (ρ:Operand -> Value) (o:Oper) (v:Value):Prop :=
 (∀ w,R W w -> (execOp ρ o).run P w= .ok (.value v) w) \/ ∃ f vals,(∀ w,(execOp ρ o).run P w= .ok (.enter f vals) w) /\ ∀ w,R W w -> Calls P f vals w fun e w'=>e= .returned v /\ R w w'
def PureAt (P:Program) (ops:Array Oper) (R:World -> World -> Prop) (W:World) (o:Oper) (v:Value) (a:Act):Prop :=
 (Region.wanted o (yielded ops a.tmps)=true /\ PureRun P R W a.eval o v) \/ (Region.wanted o (yielded ops a.tmps)=false /\ v=undef)
theorem PureRun.later (M:uc R) {W W':World} {ρ:Operand -> Value} {o:Oper} {v:Value} (h:PureRun P R W ρ o v) (hR:R W W'):PureRun P R W' ρ o v:=by
 rcases h with h | ⟨f,vals,h1,h2⟩
 ·exact .inl fun w hw=>h w (M.trans _ _ _ hR hw)
 ·exact .inr ⟨f,vals,h1,fun w hw=>h2 w (M.trans _ _ _ hR hw)⟩
theorem PureAt.later (M:uc R) {W W':World} {o:Oper} {v:Value} {a:Act} (h:PureAt P ops R W o v a) (hR:R W W'):PureAt P ops R W' o v a :=
 h.imp (fun h=>⟨h.1,h.2.later M hR⟩) id
theorem PureAt.same {W:World} {o:Oper} {v:Value} {a a':Act} (h:PureAt P ops R W o v a) (he:execOp a'.eval o=execOp a.eval o) (hw:Region.wanted o (yielded ops a'.tmps)=Region.wanted o (yielded ops a.tmps)):PureAt P ops R W o v a':=by
 unfold PureAt PureRun at *;rw [he,hw];exact h
theorem PureAt.op {W w:World} {i:Nat} {o:Oper} {v:Value} {a:Act} {K:Act -> World -> Prop} (M:uc R) (hi:ops[i]?=some o) (h:PureAt P ops R W o v a) (hR:R W w) (hK:∀ w',R w w' -> K (a.put o.dst v) w'):wpOp P ops Q i K a w:=by
 unfold wpOp;simp only [hi];rcases h with ⟨hw,h | ⟨f,vals,h1,h2⟩⟩ | ⟨hw,rfl⟩
 ·simp only [hw,if_true,Oper.wp,h w hR,Oper.upon]
  exact .inl (hK w (M.refl w))
 ·simp only [hw,if_true,Oper.wp,h1 w,Oper.upon]
  refine .inl (Calls.mono (h2 w hR) ?_);rintro e w' ⟨rfl,h3⟩;exact hK w' h3
 ·simp only [hw,Bool.false_eq_true,if_false]
  exact hK w (M.refl w)
theorem BT {Pi:Act -> Prop} {j:Nat} {oi oj:Oper} {v:Value} (hj:ops[j]?=some oj) (Oq:oi.apart ops oj=true)
  (hsi:∀ cs b,oi.op≠.select cs b) (hsj:∀ cs b,oj.op≠.select cs b)
  (hPi:∀ a a',Pi a -> execOp a'.eval oi=execOp a.eval oi -> Region.wanted oi (yielded ops a'.tmps)=Region.wanted oi (yielded ops a.tmps) -> Pi a')
  (hQ:∀ c a w,Q (.panic c) (a.put oi.dst v) w -> Q (.panic c) a w) {K:Act -> World -> Prop} {a:Act} {w:World}
  (hy:Pi a) (h:wpOp P ops Q j K (a.put oi.dst v) w):wpOp P ops Q j (fun a' w'=>Pi a' /\ K (a'.put oi.dst v) w') a w:=by
 obtain ⟨h1,h2,h3⟩:=Oper.apart_spec Oq;have keep:∀ u,Pi (a.put oj.dst u):=fun u=>hPi a _ hy (execOp_put oi hsi a oj.dst u h3) (wanted_put oi a oj.dst u h3)
 unfold wpOp at *;simp only [hj] at *;rw [wanted_put oj a oi.dst v h1] at h;split
 ·rename_i hw
  simp only [hw,if_true] at h;rcases h with h | ⟨KH,hlets⟩
  case inr=>exact .inr ⟨by unfold Oper.asks at *;rw [execOp_put oj hsj a oi.dst v h1] at KH;exact KH,hlets⟩
  refine .inl ?_;unfold Oper.wp at *;rw [execOp_put oj hsj a oi.dst v h1] at h;generalize (execOp a.eval oj).run P w=r at *;rcases r with ⟨n,w'⟩ | ⟨x,w'⟩
  ·cases n <;> simp only [Oper.upon] at h |-
   case value u=>exact ⟨keep u,by rw [<- Act.put_comm a v u h2];exact h⟩
   case skip=>exact ⟨keep _,by rw [<- Act.put_comm a v undef h2];exact h⟩
   case defer d =>
    refine ⟨hPi _ _ (hPi a { a with defers:=d :: a.defers } hy rfl rfl) (execOp_put oi hsi _ oj.dst _ h3) (wanted_put oi _ oj.dst _ h3),?_⟩
    rw [<- Act.put_comm _ v undef h2,<- Act.put_defers];exact h
   case enter f args =>
    refine Calls.mono h fun e Ej he=>?_
    rcases e with u | c | _
    ·exact ⟨keep u,by rw [<- Act.put_comm a v u h2];exact he⟩
    ·exact hQ _ _ _ he
    ·exact he
   case row row args=>exact Rows.mono h fun u Ej he=>⟨keep u,by rw [<- Act.put_comm a v u h2];exact he⟩
  ·cases x <;> simp only [Oper.upon] at h |-
   case panic u=>exact hQ _ _ _ h
 ·rename_i hw
  simp only [hw] at h;exact ⟨keep _,by rw [<- Act.put_comm a v undef h2];exact h⟩
def May (bars:List Nat) (R:World -> World -> Prop) (ta:Array Bool) (w w1:World):Prop:=if Yb bars ta=true then w1=w else R w w1
theorem May.refl (M:uc R) (bars:List Nat) (ta:Array Bool) (w:World):May bars R ta w w:=by
 unfold May;split
 ·rfl
 ·exact M.refl w
theorem May.of {bars:List Nat} {ta:Array Bool} {w w1:World} (hp:Yb bars ta=false) (h:R w w1):May bars R ta w w1:=by
 unfold May;rw [if_neg (by rw [hp];exact Bool.noConfusion)]
 exact h
theorem May.out {bars:List Nat} {ta:Array Bool} {w w1:World} (hp:Yb bars ta=false) (h:May bars R ta w w1):R w w1:=by
 unfold May at h
 rwa [if_neg (by rw [hp];exact Bool.noConfusion)] at h
theorem May.eq {bars:List Nat} {ta:Array Bool} {w w1:World} (hp:Yb bars ta=true) (h:May bars R ta w w1):w1=w:=by
 unfold May at h
 rwa [if_pos hp] at h
def Ds (P:Program) (ops:Array Oper) (Q:Exit -> Act -> World -> Prop) (bars:List Nat) (R:World -> World -> Prop):Nat -> Array Bool -> Act -> World -> Prop
 | 0,ta,a,w=>Region.ready .any ops ta=[] /\ ∀ w1,May bars R ta w w1 -> Q .normal a w1
 | fuel+1,ta,a,w=>∀ w1,May bars R ta w w1 -> (Region.ready .any ops ta=[] -> Q .normal a w1) /\
   ∀ i∈Region.ready .any ops ta,wpOp P ops Q i (fun a' w'=>(Yb bars (ta.setIfInBounds i true)=false -> R w1 w') /\ Ds P ops Q bars R fuel (ta.setIfInBounds i true) a' w') a w1
theorem RK (M:uc R) {bars:List Nat}:∀ (fuel:Nat) (ta:Array Bool) (a:Act) (w w2:World),Yb bars ta=false -> R w w2 -> Ds P ops Q bars R fuel ta a w -> Ds P ops Q bars R fuel ta a w2
 | 0,_,_,_,_,hp,hR,h=>⟨h.1,fun w1 h1=>h.2 w1 (.of hp (M.trans _ _ _ hR (h1.out hp)))⟩
 | _+1,_,_,_,_,hp,hR,h=>fun w1 h1=>h w1 (.of hp (M.trans _ _ _ hR (h1.out hp)))
theorem NK (M:uc R) {bars:List Nat}:∀ (fuel:Nat) (ta:Array Bool) (a:Act) (w:World),Ds P ops Q bars R fuel ta a w -> wpAny P .any ops Q fuel ta a w
 | 0,_,_,w,h=>⟨h.1,h.2 w (.refl M _ _ w)⟩
 | fuel+1,_,_,w,h=>⟨(h w (.refl M _ _ w)).1,fun i hi=>wpOp_mono (fun a' w' h'=>NK M fuel _ a' w' h'.2) ((h w (.refl M _ _ w)).2 i hi)⟩
theorem tT (M:uc R) {bars:List Nat} {i:Nat} {oi:Oper} {v:Value} (hi:ops[i]?=some oi) (Kd:∀ (j:Nat) (o:Oper) cs b,ops[j]?=some o -> o.op≠.select cs b)
  (hQ:∀ c a w,Q (.panic c) (a.put oi.dst v) w -> Q (.panic c) a w) (hib:i ∉ bars) (JD:∀ b∈bars,∀ ob,ops[b]?=some ob -> ∃ e∈ob.after,Region.binds .any e=true /\ e.on=i) :
  ∀ (fuel:Nat) (ta:Array Bool) (a:Act) (w:World),Yb bars ta=false ->
   (∀ j oj,ops[j]?=some oj -> j≠i -> ta.getD j true=false -> (∀ e∈oj.after,Region.binds .any e=true -> e.on≠i) -> oi.apart ops oj=true) ->
   i∈Region.ready .any ops ta -> PureAt P ops R w oi v a -> Ds P ops Q bars R fuel (ta.setIfInBounds i true) (a.put oi.dst v) w -> Ds P ops Q bars R (fuel+1) ta a w:=by
 intro fuel
 induction fuel with
 | zero =>
  intro ta a w hp _ hr hy H w1 yn;have qn:Yb bars (ta.setIfInBounds i true)=false:=by rw [ou hib];exact hp
  have Kv:=yn.out hp;refine ⟨fun h=>(by rw [h] at hr;cases hr),fun j hj=>?_⟩
  by_cases He:j=i
  ·subst He
   exact hy.op M hi Kv fun w' h'=>⟨fun _=>h',RK M _ _ _ _ _ qn (M.trans _ _ _ Kv h') H⟩
  ·have:=ready_mono hj He
   rw [H.1] at this;cases this
 | succ fuel ih =>
  intro ta a w hp Gt hr hy H w1 yn;have qn:Yb bars (ta.setIfInBounds i true)=false:=by rw [ou hib];exact hp
  have Kv:=yn.out hp;refine ⟨fun h=>(by rw [h] at hr;cases hr),fun j hj=>?_⟩
  by_cases He:j=i
  ·subst He
   exact hy.op M hi Kv fun w' h'=>⟨fun _=>h',RK M _ _ _ _ _ qn (M.trans _ _ _ Kv h') H⟩
  ·have h1:=(H w1 (.of qn Kv)).2 j (ready_mono hj He)
   obtain ⟨Nt,oj,Ie,Te⟩:=mem_ready.1 hj;have gw:∀ e∈oj.after,Region.binds .any e=true -> e.on≠i:=fun e he hb heq=>by
    have h1:=Te e he hb;have h0:=(mem_ready.1 hr).1;rw [heq] at h1;rcases Nat.lt_or_ge i ta.size with h' | h'
    ·simp [h'] at h0 h1;rw [h0] at h1;cases h1
    ·simp [Array.getElem?_eq_none h'] at h1
   have hjb:j ∉ bars:=fun hb=>by
    obtain ⟨e,he,Ct,hei⟩:=JD j hb oj Ie;exact gw e he Ct hei
   have hpj:Yb bars (ta.setIfInBounds j true)=false:=by rw [ou hjb];exact hp
   have hpij:Yb bars ((ta.setIfInBounds i true).setIfInBounds j true)=false:=by rw [ou hjb];exact qn
   have h2:=BT (Pi:=PureAt P ops R w1 oi v) Ie (Gt j oj Ie He Nt gw) (fun cs b=>Kd i oi cs b hi) (fun cs b=>Kd j oj cs b Ie) (fun _ _ h he hw=>h.same he hw) hQ (hy.later M Kv) h1
   have Zy:∀ k ok,ops[k]?=some ok -> k≠i -> (ta.setIfInBounds j true).getD k true=false ->
     (∀ e∈ok.after,Region.binds .any e=true -> e.on≠i) -> oi.apart ops ok=true:=fun k ok hk Xq Yt pn=>by
    refine Gt k ok hk Xq ?_ pn;by_cases Mt:j=k
    ·subst Mt;exact Nt
    ·rw [getD_set_ne true Mt] at Yt;exact Yt
   refine wpOp_mono (fun a' w' h3=>?_) h2
   have Oo:=h3.2.1 hpij;refine ⟨fun _=>Oo,ih (ta.setIfInBounds j true) a' w' hpj Zy (ready_mono hr (Ne.symm He)) (h3.1.later M Oo) ?_⟩
   rw [Array.setIfInBounds_comm _ _ He];exact h3.2.2
theorem uT {bars:List Nat} {i:Nat} {oi:Oper} {v:Value} (hi:ops[i]?=some oi) (Kd:∀ (j:Nat) (o:Oper) cs b,ops[j]?=some o -> o.op≠.select cs b)
  (hQ:∀ c a w,Q (.panic c) (a.put oi.dst v) w -> Q (.panic c) a w) :
  ∀ (fuel:Nat) (ta:Array Bool) (a:Act) (w:World),Yb bars ta=true ->
   (∀ j oj,ops[j]?=some oj -> j≠i -> ta.getD j true=false -> (∀ e∈oj.after,Region.binds .any e=true -> e.on≠i) -> oi.apart ops oj=true) ->
   i∈Region.ready .any ops ta -> YieldsIf P ops (fun _=>True) oi v a -> Ds P ops Q bars R fuel (ta.setIfInBounds i true) (a.put oi.dst v) w -> Ds P ops Q bars R (fuel+1) ta a w:=by
 intro fuel;have pn:∀ {ta:Array Bool} {j:Nat} {w w':World},Yb bars ta=true -> Yb bars (ta.setIfInBounds j true)=false -> R w w':=fun h h'=>by
  rw [Cz h] at h';cases h'
 induction fuel with
 | zero =>
  intro ta a w hp _ hr hy H w1 yn;obtain rfl:=yn.eq hp;refine ⟨fun h=>(by rw [h] at hr;cases hr),fun j hj=>?_⟩
  by_cases He:j=i
  ·subst He
   exact hy.wpOp hi trivial ⟨pn hp,H⟩
  ·have:=ready_mono hj He
   rw [H.1] at this;cases this
 | succ fuel ih =>
  intro ta a w hp Gt hr hy H w1 yn;obtain rfl:=yn.eq hp;refine ⟨fun h=>(by rw [h] at hr;cases hr),fun j hj=>?_⟩
  by_cases He:j=i
  ·subst He
   exact hy.wpOp hi trivial ⟨pn hp,H⟩
  ·have h1:=(H w1 (by unfold May;rw [if_pos (Cz hp)])).2 j (ready_mono hj He)
   obtain ⟨Nt,oj,Ie,Te⟩:=mem_ready.1 hj;have gw:∀ e∈oj.after,Region.binds .any e=true -> e.on≠i:=fun e he hb heq=>by
    have h1:=Te e he hb;have h0:=(mem_ready.1 hr).1;rw [heq] at h1;rcases Nat.lt_or_ge i ta.size with h' | h'
    ·simp [h'] at h0 h1;rw [h0] at h1;cases h1
    ·simp [Array.getElem?_eq_none h'] at h1
   have h2:=wpOp_putIf Ie (Gt j oj Ie He Nt gw) (fun cs b=>Kd i oi cs b hi) (fun cs b=>Kd j oj cs b Ie) hQ hy h1
   have Zy:∀ k ok,ops[k]?=some ok -> k≠i -> (ta.setIfInBounds j true).getD k true=false ->
     (∀ e∈ok.after,Region.binds .any e=true -> e.on≠i) -> oi.apart ops ok=true:=fun k ok hk Xq Yt pn=>by
    refine Gt k ok hk Xq ?_ pn;by_cases Mt:j=k
    ·subst Mt;exact Nt
    ·rw [getD_set_ne true Mt] at Yt;exact Yt
   refine wpOp_mono (fun a' w' h3=>⟨pn hp,ih (ta.setIfInBounds j true) a' w' (Cz hp) Zy (ready_mono hr (Ne.symm He)) h3.1 ?_⟩) h2
   rw [Array.setIfInBounds_comm _ _ He];exact h3.2.2
end
def ki (P:Program) (l:List Oper) (hs bars:List Nat) (Q:Exit -> Act -> World -> Prop) (R:World -> World -> Prop) (order:List Nat) (ta:Array Bool) (a:Act) (w:World):Prop :=
 Region.noSelect l.toArray=true -> On l hs bars order ta=true -> Ds P l.toArray Q bars R order.length ta a w
section
variable {P:Program} {l:List Oper} {hs bars:List Nat} {Q:Exit -> Act -> World -> Prop} {R:World -> World -> Prop} {rest:List Nat} {i:Nat} {o:Oper} {ta:Array Bool} {a:Act} {w:World}
theorem xd {id:Nat} (R:World -> World -> Prop) (M:uc R) (hs bars order:List Nat) (hm:P.follows .mixedOrders=true) (Ia:(Region.noSelect l.toArray&&order.length == l.length&&On l hs bars order (List.replicate l.length false).toArray)=true)
  (h:ki P l hs bars Q R order (List.replicate l.length false).toArray a w.drew):(Code.region id l.toArray true).wp P Q a w:=by
 simp only [Bool.and_eq_true,beq_iff_eq] at Ia;refine wp_region_any hm (NK (R:=R) (bars:=bars) M _ _ _ _ ?_);have h2:=h Ia.1.1 Ia.2;have e:Array.replicate l.toArray.size false=(List.replicate l.length false).toArray:=by simp
 rw [Ia.1.2] at h2;rw [e]
 simpa using h2
theorem yd (M:uc R) {order:List Nat} (h:∀ W,R w W -> ki P l hs bars Q R order ta a W):ki P l hs bars Q R order ta a w:=h w (M.refl w)
theorem im (hp:Yb bars ta=false) (h:∀ w1,R w w1 -> Q .normal a w1):ki P l hs bars Q R [] ta a w:=fun _ Ia=>⟨by simpa [On] using Ia,fun w1 h1=>h w1 (h1.out hp)⟩
theorem Uf (hp:Yb bars ta=true) (h:Q .normal a w):ki P l hs bars Q R [] ta a w:=fun _ Ia=>⟨by simpa [On] using Ia,fun w1 h1=>by rw [h1.eq hp];exact h⟩
theorem TF {v:Value} (M:uc R) (hh:hs.contains i=false) (hp:Yb bars ta=false) (ho:l[i]?=some o) (hQ:∀ c a w,Q (.panic c) (a.put o.dst v) w -> Q (.panic c) a w)
  (hpu:PureAt P l.toArray R w o v a) (h:ki P l hs bars Q R rest (ta.setIfInBounds i true) (a.put o.dst v) w):ki P l hs bars Q R (i :: rest) ta a w:=by
 intro hn Ia;obtain ⟨h1,h2,-,h4,h5⟩:=Nx Ia;obtain ⟨f1,f2,f3⟩:=h4 hh;have Cf:l.toArray[i]?=some o:=by rw [List.getElem?_toArray];exact ho
 refine tT M Cf (Region.noSelect_spec hn) hQ f2 (fun b hb ob hob=>LF hob ?_) _ _ _ _ hp (Region.free_spec Cf f1) (by simpa using h2) hpu (h hn h5)
 rcases f3 with f3 | f3
 ·rw [hp] at f3;cases f3
 ·exact f3 b hb
theorem PK {v:Value} (M:uc R) (hh:hs.contains i=false) (hp:Yb bars ta=false) (ho:l[i]?=some o) (hw:Region.wanted o (yielded l.toArray a.tmps)=true) (hQ:∀ c a w,Q (.panic c) (a.put o.dst v) w -> Q (.panic c) a w)
  (Xb:∀ w',R w w' -> (execOp a.eval o).run P w'= .ok (.value v) w') (h:ki P l hs bars Q R rest (ta.setIfInBounds i true) (a.put o.dst v) w):ki P l hs bars Q R (i :: rest) ta a w :=
 TF M hh hp ho hQ (.inl ⟨hw, .inl Xb⟩) h
theorem QK (M:uc R) (hh:hs.contains i=false) (hp:Yb bars ta=false) (ho:l[i]?=some o) (hw:Region.wanted o (yielded l.toArray a.tmps)=false) (hQ:∀ c a w,Q (.panic c) (a.put o.dst undef) w -> Q (.panic c) a w)
  (h:ki P l hs bars Q R rest (ta.setIfInBounds i true) (a.put o.dst undef) w):ki P l hs bars Q R (i :: rest) ta a w :=
 TF M hh hp ho hQ (.inr ⟨hw,rfl⟩) h
theorem Uc {a b:Prop} (h:a) (s:Imp a b:=by
 (repeat ((first | (apply Imp.via (QK (pa) rfl rfl rfl rfl (fun _ _ _ h=>h))) | (apply Imp.via (PK (v:=?_) (pa) rfl rfl rfl rfl (fun _ _ _ h=>h) ?hr);case hr=>(intro w' hR;(first | have yi:=rz ((pa).trans _ _ _ da hR) | skip);go_simp;try with_reducible rfl)));simp only [Act.put,zLa,zLb,zLc]))
 exact Imp.rfl'):b:=s h
theorem Jb {v:Value} {f:FuncId} {vals:Array Value} (M:uc R) (hh:hs.contains i=false) (hp:Yb bars ta=false) (ho:l[i]?=some o) (hw:Region.wanted o (yielded l.toArray a.tmps)=true) (hQ:∀ c a w,Q (.panic c) (a.put o.dst v) w -> Q (.panic c) a w)
  (Xb:∀ w,(execOp a.eval o).run P w= .ok (.enter f vals) w) (hc:∀ w',R w w' -> Calls P f vals w' fun e Ej=>e= .returned v /\ R w' Ej)
  (h:ki P l hs bars Q R rest (ta.setIfInBounds i true) (a.put o.dst v) w):ki P l hs bars Q R (i :: rest) ta a w :=
 TF M hh hp ho hQ (.inl ⟨hw, .inr ⟨f,vals,Xb,hc⟩⟩) h
theorem sT {v:Value} (hh:hs.contains i=false) (hp:Yb bars ta=true) (ho:l[i]?=some o) (hw:Region.wanted o (yielded l.toArray a.tmps)=true) (hQ:∀ c a w,Q (.panic c) (a.put o.dst v) w -> Q (.panic c) a w)
  (Xb:∀ w',(execOp a.eval o).run P w'= .ok (.value v) w') (h:ki P l hs bars Q R rest (ta.setIfInBounds i true) (a.put o.dst v) w):ki P l hs bars Q R (i :: rest) ta a w:=by
 intro hn Ia;obtain ⟨h1,h2,-,h4,h5⟩:=Nx Ia;have Cf:l.toArray[i]?=some o:=by rw [List.getElem?_toArray];exact ho
 exact uT Cf (Region.noSelect_spec hn) hQ _ _ _ _ hp (Region.free_spec Cf (h4 hh).1) (by simpa using h2) (.inl ⟨hw,fun w' _=>Xb w'⟩) (h hn h5)
theorem Qb {a b:Prop} (h:a) (s:Imp a b:=by
 (repeat ((first | (apply Imp.via (QK (pa) rfl rfl rfl rfl (fun _ _ _ h=>h))) | (apply Imp.via (PK (v:=?_) (pa) rfl rfl rfl rfl (fun _ _ _ h=>h) ?hr);case hr=>(intro w' hR;(first | have yi:=rz ((pa).trans _ _ _ da hR) | skip);go_simp;try with_reducible rfl)) | (apply Imp.via (sT (v:=?_) rfl rfl rfl rfl (fun _ _ _ h=>h) ?hr);case hr=>(intro w';go_simp;try with_reducible rfl)));simp only [Act.put,zLa,zLb,zLc]))
 exact Imp.rfl'):b:=s h
theorem Hf (hh:hs.contains i=true) (hp:Yb bars ta=false) (ho:l[i]?=some o) (hw:Region.wanted o (yielded l.toArray a.tmps)=true)
  (h:∀ w1,R w w1 -> o.wp P a w1 (fun a' w'=>(Yb bars (ta.setIfInBounds i true)=false -> R w1 w') /\ ki P l hs bars Q R rest (ta.setIfInBounds i true) a' w') Q):ki P l hs bars Q R (i :: rest) ta a w:=by
 intro hn Ia;obtain ⟨h1,-,h3,-,h5⟩:=Nx Ia;have hr:=h3 hh;intro w1 yn;refine ⟨fun h0=>absurd (hr ▸ h0) (by simp),fun j hj=>?_⟩
 rw [hr,List.mem_singleton] at hj;subst hj;unfold wpOp;have hi:l.toArray[j]?=some o:=by rw [List.getElem?_toArray];exact ho
 simp only [hi,hw,if_true];exact .inl (Oper.wp_mono (fun a' w' h'=>⟨h'.1,h'.2 hn h5⟩) (h w1 (yn.out hp)))
end
def ren25:Go.Shelf.Ren:=⟨fun | 25=>235 | n=>n,fun | 22=>22 | n=>n,fun n=>n⟩
theorem pO:Go.Proofs.Lays7.n25 Tryz.prog ren25:={ mixed:=by kernel_rfl,f25:=by kernel_rfl,t22:=by kernel_rfl,a22:=fun _=>by kernel_rfl,z22:=fun _=>by kernel_rfl,v22:=fun _=>by kernel_rfl,i22:=by kernel_rfl }
theorem mS (x y:Nat) (w:World):(callFunc 235 #[.int .u64 x, .int .u64 y, .int .u64 0]).run Tryz.prog w =
  .ok (.value (.tuple #[.int .u64 (((x+y)%18446744073709551616:Nat):Int), .int .u64 (((x+y) / 18446744073709551616:Nat):Int)])) w :=
 Any7.bits_Add64 pO x y 0 (by omega) w
def fv (p:Nat):Value:=.agg #[.int .u64 p]
theorem Pj (p:Nat) (w:World) (hp:Db p=true) :
  Calls Tryz.prog 168 #[fv p] w fun e w'=>e= .returned (.bool true) /\ Below w.heap.size w w':=by
 unfold fv;rcases Hw hp with rfl | rfl | rfl | rfl | rfl | rfl | rfl <;>
 ·go_enter Tryz.func168,Tryz.ntmps168
  go_wp2_with fail
  go_ret
  exact ⟨rfl,(Below.refl _ _).alloc zR _⟩
theorem nH (p:Nat) (w:World) (hp:Db p=true) :
  Calls Tryz.prog 176 #[fv p] w fun e w'=>e= .returned (.tuple #[.int .u64 ((Yc p).1:Int), .int .i64 ((Yc p).2.1:Int), .int .u64 ((Yc p).2.2:Int)]) /\ Below w.heap.size w w':=by
 unfold fv;rcases Hw hp with rfl | rfl | rfl | rfl | rfl | rfl | rfl <;>
 ·go_enter Tryz.func176,Tryz.ntmps176
  go_wp2_with fail
  go_ret3
  exact ⟨rfl,(Below.refl _ _).alloc zR _⟩
theorem kH (p:Nat) (w:World) (hp:Db p=true) :
  Calls Tryz.prog 103 #[fv p] w fun e w'=>e= .returned (.int .u64 ((Yc p).1:Int)) /\ Below w.heap.size w w':=by
 have H:=zH (fun w=>nH p w hp)
 clear hp;unfold fv at *;generalize Yc p=r at *;obtain ⟨a,b,c⟩:=r;go_enter Tryz.func103,Tryz.ntmps103
 go_wp2_with (go_at_call 176;refine (H.out _).mono ?_;rintro e w1 ⟨rfl,hb⟩)
 go_ret
 exact ⟨rfl,ja ((Below.refl _ _).alloc zR _) hb⟩
theorem IM (p:Nat) (w:World) (hp:Db p=true) :
  Calls Tryz.prog 229 #[fv p] w fun e w'=>e= .returned (.int .u64 ((Yc p).2.2:Int)) /\ Below w.heap.size w w':=by
 have H:=zH (fun w=>nH p w hp)
 clear hp;unfold fv at *;generalize Yc p=r at *;obtain ⟨a,b,c⟩:=r;go_enter Tryz.func229,Tryz.ntmps229
 go_wp2_with (go_at_call 176;refine (H.out _).mono ?_;rintro e w1 ⟨rfl,hb⟩)
 go_ret
 exact ⟨rfl,ja ((Below.refl _ _).alloc zR _) hb⟩
theorem ot (p n:Nat) (w:World) (hp:0<p) :
  Calls Tryz.prog 179 #[fv p, .int .u64 n] w fun e w'=>e= .returned (.int .u64 ((n%p:Nat):Int)) /\ Below w.heap.size w w':=by
 unfold fv;have p1:(0:Int)<(p:Int):=by omega
 have e1:(n:Int)%(p:Int)=((n%p:Nat):Int):=rfl;have e2:(n:Int).tmod (p:Int)=((n%p:Nat):Int):=rfl;by_cases h:p <= n
 ·have g:(p:Int) <= (n:Int):=by omega
  revert e1 e2
  generalize n%p=r;intro e1 e2;go_enter Tryz.func179,Tryz.ntmps179
  go_wp2_with fail
  go_ret
  exact ⟨rfl,(Below.refl _ _).alloc zR _⟩
 ·have g:¬((p:Int) <= (n:Int)):=by omega
  have HE:=zH (Nat.mod_eq_of_lt (show n<p by omega))
  clear e1 e2;rw [HE.out];go_enter Tryz.func179,Tryz.ntmps179
  go_wp2_with fail
  go_ret
  exact ⟨rfl,(Below.refl _ _).alloc zR _⟩
theorem vD (p a b:Nat) (w:World) (hp:Db p=true) (ha:a<p) (hb:b<p) :
  Calls Tryz.prog 178 #[fv p, .int .u64 a, .int .u64 b] w fun e w'=>e= .returned (.int .u64 ((a*b%p:Nat):Int)) /\ Below w.heap.size w w':=by
 obtain ⟨h1,h2⟩:=nc hp;unfold fv;have Vq:a*b / 18446744073709551616<p:=by
  have:a*b <= p*18446744073709551615:=Nat.mul_le_mul (by omega) (by omega)
  rw [Nat.div_lt_iff_lt_mul (by omega)]
  omega
 have Yq:a*b%18446744073709551616<18446744073709551616:=Nat.mod_lt _ (by omega)
 have Yi:=Nat.div_add_mod (a*b) 18446744073709551616;rw [Nat.mul_comm 18446744073709551616] at Yi;have HM:=zH (fun w=>YI a b w (by omega) (by omega))
 revert Vq Yq Yi HM
 generalize a*b / 18446744073709551616=hi;generalize a*b%18446744073709551616=lo;intro Vq Yq Yi HM;have HD:=zH (fun w=>eH hi lo p w Vq Yq h2)
 rw [Yi] at HD;clear h1 h2 ha hb Vq Yq Yi hp;revert HD
 generalize a*b / p=q;generalize a*b%p=r;intro HD;go_enter Tryz.func178,Tryz.ntmps178
 go_wp2_with fail
 refine (HM.out _).mono ?_;rintro e w1 ⟨rfl,rfl⟩;go_wp2_with fail
 refine (HD.out _).mono ?_;rintro e w3 ⟨rfl,k,rfl⟩;go_wp2;go_ret
 exact ⟨rfl,mv ((Below.refl _ _).alloc zR _) _⟩
theorem PM (p a b:Nat) (w:World) (hp:Db p=true) (ha:a<p) (hb:b<p) :
  Calls Tryz.prog 217 #[fv p, .int .u64 a, .int .u64 b] w fun e w'=>e= .returned (.int .u64 (((a+b)%p:Nat):Int)) /\ Below w.heap.size w w':=by
 obtain ⟨h1,h2⟩:=nc hp;unfold fv;have Xb:=mS a b;obtain ⟨s,hs⟩:=zEX ((a+b)%18446744073709551616);obtain ⟨c,hc⟩:=zEX ((a+b) / 18446744073709551616);rw [<- hs,<- hc] at Xb;by_cases z:c=0
 ·have d1:((c:Int) != 0)=false:=by rw [bne_eq_false_iff_eq];omega
  have d1':(c:Int)=0:=by omega
  by_cases aw:p <= s
  ·have d2:(p:Int) <= (s:Int):=by omega
   have e:IntKind.u64.wrap ((s:Int)-(p:Int))=(((a+b)%p:Nat):Int):=by
    rw [Yn s p aw (by omega)]
    congr 1
    have e1:s=a+b:=by omega
    rw [e1,Nat.mod_eq_sub_mod (by omega),Nat.mod_eq_of_lt (by omega)]
   generalize (a+b)%p=r at *;clear hs hc hp z ha hb h1 h2 d1';go_enter Tryz.func217,Tryz.ntmps217
   go_wp2_with fail
   go_ret
   exact ⟨rfl,(Below.refl _ _).alloc zR _⟩
  ·have d2:¬((p:Int) <= (s:Int)):=by omega
   have e:s=(a+b)%p:=by
    have e1:s=a+b:=by omega
    rw [e1,Nat.mod_eq_of_lt (by omega)]
   have HE:=zH e;clear hs hc hp z ha hb h1 h2 d1' e;rw [<- HE.out];go_enter Tryz.func217,Tryz.ntmps217
   go_wp2_with fail
   go_ret
   exact ⟨rfl,(Below.refl _ _).alloc zR _⟩
 ·have d1:((c:Int) != 0)=true:=by rw [bne_iff_ne];omega
  have e:IntKind.u64.wrap ((s:Int)-(p:Int))=(((a+b)%p:Nat):Int):=by
   have e1:(a+b)%p=a+b-p:=by rw [Nat.mod_eq_sub_mod (by omega),Nat.mod_eq_of_lt (by omega)]
   rw [e1,IntKind.wrap_u64];omega
  generalize (a+b)%p=r at *;clear hs hc hp z ha hb h1 h2;go_enter Tryz.func217,Tryz.ntmps217
  go_wp2_with fail
  go_ret
  exact ⟨rfl,(Below.refl _ _).alloc zR _⟩
theorem KA (p n:Nat) (w:World) (hp:Db p=true) :
  Calls Tryz.prog 145 #[fv p, .int .u64 n] w fun e w'=>e= .returned (.int .u64 ((n%p:Nat):Int)) /\ Below w.heap.size w w':=by
 have HV:=zH (fun w=>Pj p w hp)
 have HR:=zH (fun w=>ot p n w (by have:=nc hp;omega))
 clear hp;unfold fv at *;generalize n%p=r at *;have aa:Below w.heap.size w (w.alloc (.cells #[.int .u64 p] 175)):=(Below.refl _ _).alloc zR _;have kf:=Blk.new w 175 #[.int .u64 p];go_enter Tryz.func145,Tryz.ntmps145
 go_wp2_with fail
 refine (HV.out _).mono ?_;rintro e w1 ⟨rfl,ya⟩;replace kf:=ea kf ya;replace aa:=ja aa ya;clear ya;have cf:=kf.cell;go_wp2_with fail
 refine (HR.out _).mono ?_;rintro e w2 ⟨rfl,xa⟩;go_wp2;go_ret
 exact ⟨rfl,ja aa xa⟩
theorem Wi (p a b:Nat) (w:World) (hp:Db p=true) :
  Calls Tryz.prog 169 #[fv p, .int .u64 a, .int .u64 b] w fun e w'=>e= .returned (.int .u64 (((a+b)%p:Nat):Int)) /\ Below w.heap.size w w':=by
 have ie:0<p:=by have:=nc hp;omega
 have HV:=zH (fun w=>Pj p w hp)
 have HA:=zH (fun w=>ot p a w ie)
 have HB:=zH (fun w=>ot p b w ie)
 have HS:=zH (fun w=>PM p (a%p) (b%p) w hp (Nat.mod_lt _ ie) (Nat.mod_lt _ ie))
 rw [<- Nat.add_mod] at HS;clear hp ie;unfold fv at *;generalize (a+b)%p=r at *;generalize a%p=x at *;generalize b%p=y at *;have aa:Below w.heap.size w (w.alloc (.cells #[.int .u64 p] 175)):=(Below.refl _ _).alloc zR _;have kf:=Blk.new w 175 #[.int .u64 p];go_enter Tryz.func169,Tryz.ntmps169
 go_wp2_with fail
 refine (HV.out _).mono ?_;rintro e w1 ⟨rfl,ya⟩;replace kf:=ea kf ya;replace aa:=ja aa ya;clear ya;have cf:=kf.cell;have lf:=kf.lt;go_wp2_with fail
 refine xd (Bb) (pa) [] [] [0,1,2,3,4,5,6,7,8] (by kernel_rfl) (by kernel_rfl) ?_
 refine yd (pa) ?_;intro Wc da;refine Uc ?_;refine Jb (pa) rfl rfl rfl rfl (fun _ _ _ h=>h) (fun _=>by go_simp <;> rfl) (fun w' hR=>HA.out _) ?_
 simp only [Act.put,zLa,zLb,zLc];refine Uc ?_;refine Jb (pa) rfl rfl rfl rfl (fun _ _ _ h=>h) (fun _=>by go_simp <;> rfl) (fun w' hR=>HB.out _) ?_
 simp only [Act.put,zLa,zLb,zLc];refine Uc ?_;refine Jb (pa) rfl rfl rfl rfl (fun _ _ _ h=>h) (fun _=>by go_simp <;> rfl) (fun w' hR=>HS.out _) ?_
 simp only [Act.put,zLa,zLb,zLc];refine Uc ?_;refine im rfl ?_;intro wd Rc;replace da:=(pa).trans _ _ _ da Rc;clear Rc;go_wp2;go_ret
 exact ⟨rfl,ja aa.drew da⟩
theorem bf {P:Program} {l:List Oper} {hs:List Nat} {Q:Exit -> Act -> World -> Prop} {R:World -> World -> Prop} {ta:Array Bool} {a:Act} {w:World} (M:uc R) {order:List Nat} (h:∀ W,Hid (W=w) -> R w W -> Mi P l hs Q R order ta a W):Mi P l hs Q R order ta a w:=h w rfl (M.refl w)
theorem pk {g:Nat} {w w':World} (h:Below w.heap.size w w'):tg g w w':=Uh (Lc w _) h zR
theorem zb {w:World} {A:Option Addr} {n c:Nat} {l:List Nat} (h:RWd w [.slice A n c] l):n=l.length /\ n <= c /\ c <= maxLen /\ (∀ x∈l,x<18446744073709551616) /\ Rd w 1 A n (Ca l):=by
 obtain ⟨A',n',c',he,h1,h2,h3,h4⟩:=h;simp at he
 obtain ⟨rfl,rfl,rfl⟩:=he;have:=h3.len1;rw [Gi] at this;exact ⟨this.symm,h1,h2,h4,h3⟩
theorem Ye {w:World} {A:Option Addr} {l:List Nat} (h:Rd w 1 A l.length (Ca l)) {j:Nat} (hj:j<l.length):∃ b q,A=some ⟨b,q,none⟩ /\ b<w.heap.size /\ w.cell? ⟨b,q+j,none⟩=some (.int .u64 ((l.getD j 0:Nat):Int)):=by
 obtain ⟨b,q,e,hb,hc⟩:=ru h (by omega)
 refine ⟨b,q,e,hb,?_⟩;rw [hc j hj,jv hj,List.getD_eq_getElem?_getD,List.getElem?_eq_getElem hj]
 rfl
theorem uj {n c:Nat} (h1:n <= c) (h2:c <= maxLen):(n:Int) <= 9223372036854775807:=by
 simp [maxLen] at h2
 omega
theorem yz {l:List Nat} {B:Nat} (h:∀ x∈l,x<B) {k:Nat} (hk:k<l.length):l.getD k 0<B:=by
 rw [List.getD_eq_getElem?_getD,List.getElem?_eq_getElem hk];exact h _ (List.getElem_mem _)
theorem tB (l:List Nat) (k:Nat) (h:k<l.length):l.take (k+1)=l.take k++[l.getD k 0]:=by
 rw [List.take_succ_eq_append_getElem h,List.getD_eq_getElem?_getD,List.getElem?_eq_getElem h]
 rfl
theorem BO {β:Type} (f:β -> Nat -> β) (b:β) (l:List Nat) (k:Nat) (h:k<l.length):(l.take (k+1)).foldl f b=f ((l.take k).foldl f b) (l.getD k 0):=by
 rw [tB l k h,List.foldl_append]
 rfl
theorem Fh {w:World} {base:Nat} {e:TypeId} {A:Option Addr} {c n:Nat} {l:List Nat} (h:w.ownsRow base e 1 (.slice A n c) n (Ca l)) (hl:∀ x∈l,x<18446744073709551616):RWd w [.slice A n c] l:=by
 obtain ⟨A',c',he,h1,h2,h3,-⟩:=Tb h;simp at he
 obtain ⟨rfl,rfl⟩:=he;exact ⟨A,n,c,rfl,h1,h2,h3,hl⟩
theorem mh {W W':World} {B:Nat} {e:TypeId} {size:Nat} {v:Value} {n:Nat} {xs:List Value} (h:W.ownsRow B e size v n xs) (hg:W.grownBy W' v.ownBlock) (hB:B <= W.heap.size):Below B W W' :=
 Fo hg B hB fun g e=>(h.lt g e).1
theorem Kr {w:World} {B m:Nat} {t:TypeId} {v:Value} {a b c:List Nat} (h:w.ownsRow B t 1 v m (Ca a++Ca b)) (e:a++b=c):w.ownsRow B t 1 v m (Ca c):=by
 rw [<- e,lG];exact h
theorem Ix {w:World} {g:Nat} {t:TypeId} {l:List Nat} (h:Blk w g t (Ca l).toArray) (hl:∀ x∈l,x<18446744073709551616) (hm:l.length <= maxLen):RWd w [.slice (some ⟨g,0,none⟩) l.length l.length] l:=by
 refine ⟨_,_,_,rfl,zR,hm,⟨by rw [Gi,Nat.mul_one],fun _=>⟨_,rfl,fun j u hu=>?_⟩⟩,hl⟩
 rw [Kj,Nat.zero_add,h.cell]
 simpa using hu
def Fa (n:Nat) (f:Nat -> Nat):Array Value:=((List.range n).map fun k=>Value.int .u64 (f k:Int)).toArray
def Pe (f:Nat -> Nat) (k v:Nat):Nat -> Nat:=fun i=>if i=k then v else f i
theorem Fe {n k:Nat} (f:Nat -> Nat) (h:k<n):(Fa n f)[k]?=some (.int .u64 (f k:Int)):=by simp [Fa,h]
theorem ui {n:Nat} {f g:Nat -> Nat} (h:∀ i,i<n -> f i=g i):Fa n f=Fa n g:=by
 unfold Fa
 congr 1
 exact List.map_congr_left fun i hi=>by rw [h i (List.mem_range.1 hi)]
theorem Tm {n:Nat} (f:Nat -> Nat) (k v:Nat):(Fa n f).setIfInBounds k (.int .u64 v)=Fa n (Pe f k v):=by
 apply Array.ext
 ·simp [Fa]
 ·intro i h1 h2
  simp [Fa] at h1 h2
  rw [Array.getElem_setIfInBounds (by simpa [Fa] using h1)]
  simp only [Fa,Pe];split
  ·subst_vars;simp
  ·rename_i Ka
   simp [show ¬i=k from fun e=>Ka e.symm]
theorem Dq (n:Nat) (f:Nat -> Nat):Fa n f=(Ca ((List.range n).map f)).toArray:=by simp [Fa,Ca]
theorem Gv {w:World} {g n:Nat} {t:TypeId} {f:Nat -> Nat} (h:Blk w g t (Fa n f)) (hf:∀ i,i<n -> f i<18446744073709551616) (hn:n <= maxLen):RWd w [.slice (some ⟨g,0,none⟩) n n] ((List.range n).map f):=by
 rw [Dq] at h;have:=Ix h (fun x hx=>by
  obtain ⟨i,hi,rfl⟩:=List.mem_map.1 hx;exact hf i (List.mem_range.1 hi)) (by simpa using hn)
 simpa using this
theorem vB {P:Program} {t e:TypeId} {size bytes:Nat} {z:Value} (E:Gj P t e size bytes z) (n:Nat) (hb:bytes*n <= 281474976710656) (hn:(n:Int) <= 9223372036854775807) (w:World) :
  (Instr.makeSlice t (.int .i64 n) (.int .i64 n)).run P w= .ok (.slice (some ⟨w.heap.size,0,none⟩) n n) (w.alloc (.cells (madeCells z.cells (n*size)) e)):=by
 obtain ⟨ht,⟨i,hi,hz,hs,Sq⟩,hzs,Ra⟩:=E;have:=run_make (P:=P) w t e i z ht hi hz .i64 .i64 (n:Int) (n:Int) (by omega) (Int.le_refl _) (by rw [Sq,<- Int.natCast_mul];exact Int.ofNat_le.2 hb) hn
 rw [Int.toNat_natCast,hs] at this;exact this
theorem LO (n:Nat):madeCells (Value.int .u64 0).cells (n*1)=Fa n fun _=>0:=by
 apply Array.toList_inj.1
 rw [show (Value.int .u64 0).cells=#[.int .u64 0] from rfl,toList_madeCells_one]
 exact List.ext_getElem (by simp [Fa]) fun i h1 h2=>by simp [Fa]
theorem XN:(Tryz.prog.info? 22).map (fun i=>(i.zero,i.size,i.bytes))=some (some (.int .u64 0),1,8):=by kernel_rfl
theorem Vi:Gj Tryz.prog 28 22 1 8 (.int .u64 0):=by
 obtain ⟨i0,hi,Ff,Zb,td⟩:=info_parts XN;exact ⟨Tryz.underlying28,⟨i0,hi,Ff,Zb,td⟩,rfl,by omega⟩
theorem Fp (n:Nat) (hn:n <= 1000000) (w:World) :
  (Instr.makeSlice 28 (.int .i64 n) (.int .i64 n)).run Tryz.prog w= .ok (.slice (some ⟨w.heap.size,0,none⟩) n n) (w.alloc (.cells (Fa n fun _=>0) 22)):=by
 have:=vB (P:=Tryz.prog) Vi n (by omega) (by omega) w
 rw [LO] at this;exact this
theorem OJ (p r a e n:Nat) (h:r*a^e%p=n) (he:e%2=1):(r*a%p)*(a*a%p)^(e / 2)%p=n:=by
 have h2:e=2*(e / 2)+1:=by omega
 rw [<- h,Nat.mul_mod,Nat.mod_mod,<- Nat.pow_mod,<- Nat.mul_mod]
 conv=>rhs;rw [h2,Nat.pow_succ,Nat.pow_mul,Nat.pow_two,Nat.mul_comm _ a,<- Nat.mul_assoc]
theorem NJ (p r a e n:Nat) (h:r*a^e%p=n) (he:e%2=0):r*(a*a%p)^(e / 2)%p=n:=by
 have h2:e=2*(e / 2):=by omega
 rw [<- h,Nat.mul_mod,<- Nat.pow_mod,<- Nat.mul_mod]
 conv=>rhs;rw [h2,Nat.pow_mul,Nat.pow_two]
theorem xD (p a e:Nat) (w:World) (hp:Db p=true) (ha:a<p) (he:e<18446744073709551616) :
  Calls Tryz.prog 219 #[fv p, .int .u64 a, .int .u64 e] w fun e' w'=>e'= .returned (.int .u64 ((a^e%p:Nat):Int)) /\ Below w.heap.size w w':=by
 have ie:1<p:=by have:=nc hp;omega
 have HM:=zH (fun a b w (h1:a<p) (h2:b<p)=>vD p a b w hp h1 h2)
 obtain ⟨n,hn⟩:=zEX (a^e%p);rw [<- hn];have HI:=zH (show 1*a^e%p=n by rw [Nat.one_mul,hn])
 have HP:=zH ie;clear hn hp ie;unfold fv at *;have aa:Below w.heap.size w (w.alloc (.cells #[.int .u64 p] 175)):=(Below.refl _ _).alloc zR _;have kf:=Blk.new w 175 #[.int .u64 p];go_enter Tryz.func219,Tryz.ntmps219
 go_wp2_with fail
 generalize w.alloc _=w0 at aa kf |-;go_loopw [1,2,7] (fun x y z wr=>∃ a' e' r:Nat,x= .int .u64 a' /\ y= .int .u64 e' /\ z= .int .u64 r /\ a'<p /\ r<p /\ e'<18446744073709551616 /\ Hid (r*a'^e'%p=n) /\ Below w0.heap.size w0 wr) (fun _ y _ _=>(intOf y).toNat)
 case atStart=>exact ⟨a,e,1,rfl,rfl,rfl,ha,HP.out,he,HI.out,Below.refl _ _⟩
 case round =>
  obtain ⟨a',e',r,rfl,rfl,rfl,El,Xh,he',H,Qa⟩:=hrel;have Gr:=ea kf Qa;have cf:=Gr.cell;by_cases h0:e'=0
  ·subst h0
   have HE:=zH (show r=n by have:=H.out;rw [Nat.pow_zero,Nat.mul_one,Nat.mod_eq_of_lt Xh] at this;exact this)
   go_wp2;go_ret
   exact ⟨by rw [HE.out];rfl,aa.trans (Qa.mono aa.size)⟩
  ·have g1:(0:Int)<(e':Int):=by omega
   obtain ⟨f,hf⟩:=zEX (e' / 2);have e1:(e':Int) / 2=(f:Int):=by omega
   have eb:bits BinOp.and IntKind.u64 (e':Int) 1=((e'%2:Nat):Int):=by
    have:=bits_and_u64_nat e' 1 he' (by omega)
    rw [Nat.and_one_is_mod] at this;exact this
   rcases (show e'%2=1 \/ e'%2=0 by omega) with Nk | Nk
   ·rw [Nk] at eb
    have HF:=zH hf;have ke:=zH (fun w=>HM.out r a' w Xh El)
    have HX:=OJ p r a' e' n H.out Nk;rw [<- hf] at HX;have Df:r*a'%p<p:=Nat.mod_lt _ (by have:=HP.out;omega)
    generalize r*a'%p=s at *;have Tu:=fun (dn:f=0)=>show s*a'^f%p=n by rw [dn,Nat.pow_zero] at HX |-;exact HX
    replace HX:=zH HX;replace Tu:=zH Tu;clear Nk hf;go_wp2_with fail
    refine (ke.out _).mono ?_;rintro e w1 ⟨rfl,ya⟩;replace Gr:=Gr.below ya Gr.lt;replace Qa:=Om Qa ya Qa.size;clear cf ya;have cf:=Gr.cell;by_cases dn:f=0
    ·have d3:decide (0<f)=false:=decide_eq_false (by omega)
     have HF0:=zH dn;clear dn;go_wp2_with fail
     go_roundw
     case rel=>exact ⟨a',f,s,rfl,rfl,rfl,El,Df,by have:=HF.out;omega,Tu.out HF0.out,Qa⟩
     case measure=>have:=HF.out;simp [intOf];omega
    ·have g3:(0:Int)<(f:Int):=by omega
     have HQ:=zH (fun w=>HM.out a' a' w El El)
     have sp:a'*a'%p<p:=Nat.mod_lt _ (by have:=HP.out;omega)
     have HN2:=zH HX.out;generalize a'*a'%p=q at *;go_wp2_with fail
     refine (HQ.out _).mono ?_;rintro e w2 ⟨rfl,xa⟩;replace Qa:=Om Qa xa Qa.size;go_wp2
     go_roundw
     case rel=>exact ⟨q,f,s,rfl,rfl,rfl,sp,Df,by have:=HF.out;omega,HN2.out,Qa⟩
     case measure=>have:=HF.out;simp [intOf];omega
   ·rw [Nk] at eb
    have HF:=zH hf;have HX:=NJ p r a' e' n H.out Nk;rw [<- hf] at HX;have Tu:=fun (dn:f=0)=>show r*a'^f%p=n by rw [dn,Nat.pow_zero] at HX |-;exact HX
    replace HX:=zH HX;replace Tu:=zH Tu;clear Nk hf;by_cases dn:f=0
    ·have d3:decide (0<f)=false:=decide_eq_false (by omega)
     have HF0:=zH dn;clear dn;go_wp2_with fail
     go_roundw
     case rel=>exact ⟨a',f,r,rfl,rfl,rfl,El,Xh,by have:=HF.out;omega,Tu.out HF0.out,Qa⟩
     case measure=>have:=HF.out;simp [intOf];omega
    ·have g3:(0:Int)<(f:Int):=by omega
     have HQ:=zH (fun w=>HM.out a' a' w El El)
     have sp:a'*a'%p<p:=Nat.mod_lt _ (by have:=HP.out;omega)
     have HN2:=zH HX.out;generalize a'*a'%p=q at *;go_wp2_with fail
     refine (HQ.out _).mono ?_;rintro e w2 ⟨rfl,xa⟩;replace Qa:=Om Qa xa Qa.size;go_wp2
     go_roundw
     case rel=>exact ⟨q,f,r,rfl,rfl,rfl,sp,Xh,by have:=HF.out;omega,HN2.out,Qa⟩
     case measure=>have:=HF.out;simp [intOf];omega
theorem Lo (p a b:Nat) (w:World) (hp:Db p=true) :
  Calls Tryz.prog 113 #[fv p, .int .u64 a, .int .u64 b] w fun e w'=>e= .returned (.int .u64 ((a*b%p:Nat):Int)) /\ Below w.heap.size w w':=by
 have ie:0<p:=by have:=nc hp;omega
 have HV:=zH (fun w=>Pj p w hp)
 have HA:=zH (fun w=>ot p a w ie)
 have HB:=zH (fun w=>ot p b w ie)
 have HS:=zH (fun w=>vD p (a%p) (b%p) w hp (Nat.mod_lt _ ie) (Nat.mod_lt _ ie))
 rw [<- Nat.mul_mod] at HS;clear hp ie;generalize a*b%p=r at *;generalize a%p=x at *;generalize b%p=y at *;unfold fv at *;have aa:Below w.heap.size w (w.alloc (.cells #[.int .u64 p] 175)):=(Below.refl _ _).alloc zR _;have kf:=Blk.new w 175 #[.int .u64 p];go_enter Tryz.func113,Tryz.ntmps113
 go_wp2_with fail
 refine (HV.out _).mono ?_;rintro e' w1 ⟨rfl,ya⟩;replace kf:=ea kf ya;replace aa:=ja aa ya;clear ya;have cf:=kf.cell;have lf:=kf.lt;go_wp2_with fail
 refine xd (Bb) (pa) [] [] [0,1,2,3,4,5,6,7,8] (by kernel_rfl) (by kernel_rfl) ?_
 refine yd (pa) ?_;intro Wc da;refine Uc ?_;refine Jb (pa) rfl rfl rfl rfl (fun _ _ _ h=>h) (fun _=>by go_simp <;> rfl) (fun w' hR=>HA.out _) ?_
 simp only [Act.put,zLa,zLb,zLc];refine Uc ?_;refine Jb (pa) rfl rfl rfl rfl (fun _ _ _ h=>h) (fun _=>by go_simp <;> rfl) (fun w' hR=>HB.out _) ?_
 simp only [Act.put,zLa,zLb,zLc];refine Uc ?_;refine Jb (pa) rfl rfl rfl rfl (fun _ _ _ h=>h) (fun _=>by go_simp <;> rfl) (fun w' hR=>HS.out _) ?_
 simp only [Act.put,zLa,zLb,zLc];refine Uc ?_;refine im rfl ?_;intro wd Rc;replace da:=(pa).trans _ _ _ da Rc;clear Rc;go_wp2;go_ret
 exact ⟨rfl,ja aa.drew da⟩
theorem JM (p a n:Nat) (w:World) (hp:Db p=true) (hn:n<18446744073709551616) :
  Calls Tryz.prog 230 #[fv p, .int .u64 a, .int .u64 n] w fun e w'=>e= .returned (.int .u64 ((a^n%p:Nat):Int)) /\ Below w.heap.size w w':=by
 have ie:0<p:=by have:=nc hp;omega
 have HV:=zH (fun w=>Pj p w hp)
 have HA:=zH (fun w=>ot p a w ie)
 have HS:=zH (fun w=>xD p (a%p) n w hp (Nat.mod_lt _ ie) hn)
 rw [<- Nat.pow_mod] at HS;clear hp ie hn;generalize a^n%p=r at *;generalize a%p=x at *;unfold fv at *;have aa:Below w.heap.size w (w.alloc (.cells #[.int .u64 p] 175)):=(Below.refl _ _).alloc zR _;have kf:=Blk.new w 175 #[.int .u64 p];go_enter Tryz.func230,Tryz.ntmps230
 go_wp2_with fail
 refine (HV.out _).mono ?_;rintro e' w1 ⟨rfl,ya⟩;replace kf:=ea kf ya;replace aa:=ja aa ya;clear ya;have cf:=kf.cell;have lf:=kf.lt;go_wp2_with fail
 refine xd (Bb) (pa) [] [] [0,1,2,3,4,5,6] (by kernel_rfl) (by kernel_rfl) ?_
 refine yd (pa) ?_;intro Wc da;refine Uc ?_;refine Jb (pa) rfl rfl rfl rfl (fun _ _ _ h=>h) (fun _=>by go_simp <;> rfl) (fun w' hR=>HA.out _) ?_
 simp only [Act.put,zLa,zLb,zLc];refine Uc ?_;refine Jb (pa) rfl rfl rfl rfl (fun _ _ _ h=>h) (fun _=>by go_simp <;> rfl) (fun w' hR=>HS.out _) ?_
 simp only [Act.put,zLa,zLb,zLc];refine Uc ?_;refine im rfl ?_;intro wd Rc;replace da:=(pa).trans _ _ _ da Rc;clear Rc;go_wp2;go_ret
 exact ⟨rfl,ja aa.drew da⟩
theorem lH (p a:Nat) (w:World) (hp:Db p=true) :
  Calls Tryz.prog 181 #[fv p, .int .u64 a] w fun e w'=>e= .returned (.int .u64 ((a^(p-2)%p:Nat):Int)) /\ Below w.heap.size w w':=by
 obtain ⟨Pd,Lb⟩:=nc hp;have HV:=zH (fun w=>Pj p w hp)
 have HA:=zH (fun w=>ot p a w (by omega))
 have HS:=zH (fun w=>xD p (a%p) (p-2) w hp (Nat.mod_lt _ (by omega)) (by omega))
 have e1:IntKind.u64.wrap ((p:Int)-2)=((p-2:Nat):Int):=Yn p 2 (by omega) Lb
 have e2:(p:Int)-2=((p-2:Nat):Int):=by omega
 have e3:IntKind.u64.wrap ((p-2:Nat):Int)=((p-2:Nat):Int):=pg _ (by omega)
 rw [<- Nat.pow_mod] at HS;clear hp Pd Lb;generalize a^(p-2)%p=r at *;generalize a%p=x at *;generalize p-2=m at *;unfold fv at *;have aa:Below w.heap.size w (w.alloc (.cells #[.int .u64 p] 175)):=(Below.refl _ _).alloc zR _;have kf:=Blk.new w 175 #[.int .u64 p];go_enter Tryz.func181,Tryz.ntmps181
 go_wp2_with fail
 refine (HV.out _).mono ?_;rintro e' w1 ⟨rfl,ya⟩;replace kf:=ea kf ya;replace aa:=ja aa ya;clear ya;have cf:=kf.cell;have lf:=kf.lt;go_wp2_with fail
 refine xd (Bb) (pa) [] [] [0,1,2,3,4,5,6,7,8] (by kernel_rfl) (by kernel_rfl) ?_
 refine yd (pa) ?_;intro Wc da;refine Uc ?_;refine Jb (pa) rfl rfl rfl rfl (fun _ _ _ h=>h) (fun _=>by go_simp <;> rfl) (fun w' hR=>HA.out _) ?_
 simp only [Act.put,zLa,zLb,zLc];refine Uc ?_;refine Jb (pa) rfl rfl rfl rfl (fun _ _ _ h=>h) (fun _=>by go_simp <;> rfl) (fun w' hR=>HS.out _) ?_
 simp only [Act.put,zLa,zLb,zLc];refine Uc ?_;refine im rfl ?_;intro wd Rc;replace da:=(pa).trans _ _ _ da Rc;clear Rc;go_wp2;go_ret
 exact ⟨rfl,ja aa.drew da⟩
def xg (p a:Nat):Nat:=if a%p=0 then 0 else p-a%p
theorem mH (p a:Nat) (w:World) (hp:Db p=true) :
  Calls Tryz.prog 118 #[fv p, .int .u64 a] w fun e w'=>e= .returned (.int .u64 (xg p a:Int)) /\ Below w.heap.size w w':=by
 obtain ⟨Pd,Lb⟩:=nc hp;have HA:=zH (fun w=>KA p a w hp)
 have hx:a%p<p:=Nat.mod_lt _ (by omega)
 have HN:=zH (show xg p a=if a%p=0 then 0 else p-a%p from rfl)
 clear hp;generalize xg p a=r at *;generalize a%p=x at *;by_cases h0:x=0
 ·have HR:=zH (show r=0 by rw [HN.out,if_pos h0])
  subst h0;unfold fv at *;have aa:Below w.heap.size w (w.alloc (.cells #[.int .u64 p] 175)):=(Below.refl _ _).alloc zR _;have kf:=Blk.new w 175 #[.int .u64 p];go_enter Tryz.func118,Tryz.ntmps118
  go_wp2_with fail
  refine (HA.out _).mono ?_;rintro e' w1 ⟨rfl,ya⟩;go_wp2;go_ret
  exact ⟨by rw [HR.out];rfl,ja aa ya⟩
 ·have HR:=zH (show r=p-x by rw [HN.out,if_neg h0])
  have d1:((x:Int) == 0)=false:=by rw [beq_eq_false_iff_ne];omega
  have e1:IntKind.u64.wrap ((p:Int)-(x:Int))=((p-x:Nat):Int):=Yn p x (by omega) Lb
  rw [HR.out];clear hx Pd Lb h0 HR HN;generalize p-x=z at *;unfold fv at *;have aa:Below w.heap.size w (w.alloc (.cells #[.int .u64 p] 175)):=(Below.refl _ _).alloc zR _;have kf:=Blk.new w 175 #[.int .u64 p];go_enter Tryz.func118,Tryz.ntmps118
  go_wp2_with fail
  refine (HA.out _).mono ?_;rintro e' w1 ⟨rfl,ya⟩;replace kf:=ea kf ya;have cf:=kf.cell;go_wp2;go_ret
  exact ⟨rfl,ja aa ya⟩
theorem LA (p a b:Nat) (w:World) (hp:Db p=true) :
  Calls Tryz.prog 173 #[fv p, .int .u64 a, .int .u64 b] w fun e w'=>e= .returned (.int .u64 (((a+xg p b)%p:Nat):Int)) /\ Below w.heap.size w w':=by
 have HN:=zH (fun w=>mH p b w hp)
 have HS:=zH (fun w=>Wi p a (xg p b) w hp)
 clear hp;generalize (a+xg p b)%p=r at *;generalize xg p b=x at *;unfold fv at *;have aa:Below w.heap.size w (w.alloc (.cells #[.int .u64 p] 175)):=(Below.refl _ _).alloc zR _;have kf:=Blk.new w 175 #[.int .u64 p];go_enter Tryz.func173,Tryz.ntmps173
 have cf:=kf.cell;have lf:=kf.lt;go_wp2_with fail
 refine xd (Bb) (pa) [] [] [0,1,2,3,4,5,6] (by kernel_rfl) (by kernel_rfl) ?_
 refine yd (pa) ?_;intro Wc da;refine Uc ?_;refine Jb (pa) rfl rfl rfl rfl (fun _ _ _ h=>h) (fun _=>by go_simp <;> rfl) (fun w' hR=>HN.out _) ?_
 simp only [Act.put,zLa,zLb,zLc];refine Uc ?_;refine Jb (pa) rfl rfl rfl rfl (fun _ _ _ h=>h) (fun _=>by go_simp <;> rfl) (fun w' hR=>HS.out _) ?_
 simp only [Act.put,zLa,zLb,zLc];refine Uc ?_;refine im rfl ?_;intro wd Rc;replace da:=(pa).trans _ _ _ da Rc;clear Rc;go_wp2;go_ret
 exact ⟨rfl,ja aa.drew da⟩
end Go.Proofs.YtjipleoamlmkfaaGreat
namespace Go.Proofs.YtjipleoamlmkfaaGreat
def Pw (p x:Nat):Nat -> Nat
 | 0=>1
 | k+1=>Pw p x k*x%p
theorem fF (f:Nat -> Nat) (n i:Nat):((List.range n).map f).getD i 0=if i<n then f i else 0:=by
 rw [List.getD_eq_getElem?_getD,List.getElem?_map];split
 ·rename_i h
  rw [List.getElem?_range h]
  rfl
 ·rename_i h
  rw [List.getElem?_eq_none (by simpa using h)]
  rfl
theorem DE {a b:List Nat} (hl:a.length=b.length) (h:∀ i,i<a.length -> a.getD i 0=b.getD i 0):a=b:=by
 apply List.ext_getElem hl
 intro i h1 h2;have:=h i h1;rw [List.getD_eq_getElem?_getD,List.getD_eq_getElem?_getD,List.getElem?_eq_getElem h1,List.getElem?_eq_getElem h2] at this;exact this
end Go.Proofs.YtjipleoamlmkfaaGreat
namespace Go.Proofs.YtjipleoamlmkfaaGreat
open Go.RowKit
def Qd (w:World) (cs:List Value) (l:List (List Nat)):Prop:=RSl 1 RWd w cs l
theorem bO:Ao Qd:=Le zw
theorem zKR {w w1:World} {v:List Value} {l:List (List Nat)} (h:Below w.heap.size w w1) (r:Qd w v l):Qd w1 v l:=bO _ _ _ _ h r
theorem sh {w:World} {A:Option Addr} {n c:Nat} {l:List (List Nat)} (h:Qd w [.slice A n c] l):l.length=n /\ n <= c /\ c <= maxLen /\ RdL w 1 RWd A l:=by
 obtain ⟨A',n',c',he,h1,h2,h3,h4⟩:=h;simp at he
 obtain ⟨rfl,rfl,rfl⟩:=he;exact ⟨h1,h2,h3,h4⟩
theorem QS {w:World} {A:Option Addr} {l:List (List Nat)} (h:RdL w 1 RWd A l) (hl:0<l.length):∃ b q,A=some ⟨b,q,none⟩:=by
 obtain ⟨a,cs,e,h1,hc,-⟩:=h 0 hl;have h0:=hc 0 (by omega)
 rw [List.getElem?_eq_getElem (by omega)] at h0
 have hs:=World.cell?_spot h0;obtain ⟨b,q,s⟩:=a;cases s with
 | none=>exact ⟨b,q,e⟩
 | some x=>simp [Addr.add] at hs
theorem Zl {w:World} {A:Option Addr} {l:List (List Nat)} (h:RdL w 1 RWd A l) {i:Nat} (hi:i<l.length) :
  ∃ b q A1 n1 c1,A=some ⟨b,q,none⟩ /\ b<w.heap.size /\ w.cell? ⟨b,q+i,none⟩=some (.slice A1 n1 c1) /\ RWd w [.slice A1 n1 c1] l[i]:=by
 obtain ⟨a,cs,e,hl,hc,hr⟩:=h i hi;have Xh:=hr;obtain ⟨A1,n1,c1,rfl,-⟩:=Xh;obtain ⟨b,q,ha⟩:=QS h (by omega)
 rw [e] at ha;obtain rfl:=Option.some.inj ha;have h0:=hc 0 (by omega)
 have e0:(⟨b,q,none⟩:Addr).add (i*1+0)=⟨b,q+i,none⟩:=by rw [Kj];simp
 rw [e0] at h0;exact ⟨b,q,A1,n1,c1,e,World.block_lt_of_cell? _ _ h0,h0,hr⟩
def df (N:Nat) (gb:Option Nat) (w:World) (v:Value) (l:List Nat):Prop:=∀ u:World,(∀ b,N <= b -> b<w.heap.size -> some b≠gb -> u.heap[b]?=w.heap[b]?) -> RWd u [v] l
def Ag (N:Nat) (w:World) (v:Value) (cs:List Value) (l:List (List Nat)):Prop:=cs.length=l.length /\ ∀ (i:Nat) (h1:i<cs.length) (h2:i<l.length),df N v.ownBlock w cs[i] l[i]
theorem ED (N:Nat) (w:World) (v:Value):Ag N w v [] []:=⟨rfl,fun i h=>by simp at h⟩
theorem Lp {N:Nat} {gb:Option Nat} {w w':World} {v:Value} {l:List Nat} (h:df N gb w v l) (hs:w.heap.size <= w'.heap.size) (hw:∀ b,N <= b -> b<w.heap.size -> some b≠gb -> w'.heap[b]?=w.heap[b]?):df N gb w' v l :=
 fun u hu=>h u fun b h1 h2 h3=>(hu b h1 (by omega) h3).trans (hw b h1 h2 h3)
theorem JH {N:Nat} {w w':World} {v:Value} {cs:List Value} {l:List (List Nat)} (h:Ag N w v cs l) (hs:w.heap.size <= w'.heap.size) (hw:∀ b,N <= b -> b<w.heap.size -> some b≠v.ownBlock -> w'.heap[b]?=w.heap[b]?):Ag N w' v cs l :=
 ⟨h.1,fun i h1 h2=>Lp (h.2 i h1 h2) hs hw⟩
theorem Nf {N:Nat} {w w':World} {v:Value} {cs:List Value} {l:List (List Nat)} (h:Ag N w v cs l) (hb:Below w.heap.size w w'):Ag N w' v cs l :=
 JH h hb.size fun b _ h2 _=>hb.block b h2
theorem Cx {N g:Nat} {w w':World} {v:Value} {cs:List Value} {l:List (List Nat)} (h:Ag N w v cs l) (hg:w.grownBy w' (some g)) (hN:g<N):Ag N w' v cs l :=
 JH h hg.size fun b h1 h2 _=>hg.block b h2 fun e=>by have:=Option.some.inj e;omega
theorem TB {N base n:Nat} {w:World} {gb:Option Nat} {e:TypeId} {x:Value} {l:List Nat} (h:w.ownsRow base e 1 x n (Ca l)) (hl:∀ y∈l,y<18446744073709551616) (hN:N <= base) (hg:∀ q,gb=some q -> q<base):df N gb w x l:=by
 intro u hu;have ho:=own_agree' h fun b h1 h2=>hu b (by omega) h2 fun e=>by have:=hg b e.symm;omega
 obtain ⟨A,c,rfl,-⟩:=Tb ho;exact Fh ho hl
where
 own_agree' {w u:World} {base:Nat} {e:TypeId} {size:Nat} {v:Value} {n:Nat} {xs:List Value} (h:w.ownsRow base e size v n xs) (ha:∀ b,base <= b -> b<w.heap.size -> u.heap[b]?=w.heap[b]?):u.ownsRow base e size v n xs:=by
  obtain ⟨h1,h2⟩:=h;refine ⟨h1,?_⟩;rcases h2 with h2 | ⟨g,cap,cur,hv,Kg,hh,r⟩
  ·exact Or.inl h2
  ·exact Or.inr ⟨g,cap,cur,hv,Kg,by rw [ha g Kg (Array.getElem?_eq_some_iff.1 hh).1];exact hh,r⟩
theorem CD {N:Nat} {w w':World} {v v' x:Value} {cs:List Value} {l:List (List Nat)} {y:List Nat} (h:Ag N w v cs l) (hx:df N v.ownBlock w x y) (hg:w.grownBy w' v.ownBlock) (hv:v'.ownBlock=v.ownBlock \/ v'.ownBlock=some w.heap.size):Ag N w' v' (cs++[x]) (l++[y]):=by
 have key:∀ {z:Value} {m:List Nat},df N v.ownBlock w z m -> df N v'.ownBlock w' z m:=fun {z m} hz u hu=>by
  refine hz u fun b h1 h2 h3=>?_
  refine (hu b h1 (by have:=hg.size;omega) ?_).trans (hg.block b h2 (fun e=>h3 e))
  rcases hv with e | e
  ·rw [e];exact h3
  ·rw [e];intro e2;have:=Option.some.inj e2;omega
 refine ⟨by simp [h.1],fun i h1 h2=>?_⟩
 by_cases hi:i<cs.length
 ·rw [List.getElem_append_left hi,List.getElem_append_left (by have:=h.1;omega)]
  exact key (h.2 i hi _)
 ·have e1:i=cs.length:=by simp at h1;omega
  have e2:(cs++[x])[i]=x:=by subst e1;simp
  have e3:(l++[y])[i]=y:=by
   have:i=l.length:=by rw [e1,h.1]
   subst this;simp
  rw [e2,e3];exact key hx
theorem DD {N base n:Nat} {w:World} {e:TypeId} {v:Value} {cs:List Value} {l:List (List Nat)} (h:Ag N w v cs l) (ho:w.ownsRow base e 1 v n cs):Qd w [v] l:=by
 obtain ⟨A,c,rfl,h1,h2,hr,-⟩:=Tb ho;have hn:cs.length=n:=by have:=ho.1;omega
 refine ⟨A,n,c,rfl,by rw [<- h.1,hn],h1,h2,fun i hi=>?_⟩
 have gd:i<cs.length:=by rw [h.1];exact hi
 obtain ⟨b,q,hA,hb,hc⟩:=ru hr (by omega)
 refine ⟨_,[cs[i]],hA,rfl,fun j hj=>?_,h.2 i gd hi w fun _ _ _ _=>rfl⟩
 obtain rfl:j=0:=by omega
 rw [Kj,show q+(i*1+0)=q+i by omega,hc i (by omega),List.getElem?_eq_getElem gd]
 rfl
def FRows (N:Nat) (gb:Option Nat) (w:World) (cs:Array Value) (i:Nat) (f:Nat -> List Nat):Prop:=∀ k,k<i -> ∃ v,cs[k]?=some v /\ df N gb w v (f k)
theorem mN {N n g:Nat} {gb:Option Nat} {w:World} {t:TypeId} {cs:Array Value} {f:Nat -> List Nat} (h:FRows N gb w cs n f) (hk:Blk w g t cs) (hm:n <= maxLen):Qd w [.slice (some ⟨g,0,none⟩) n n] ((List.range n).map f):=by
 refine ⟨_,n,n,rfl,by simp,zR,hm,fun i hi=>?_⟩
 have gd:i<n:=by simpa using hi
 obtain ⟨v,h1,h2⟩:=h i gd;refine ⟨_,[v],rfl,rfl,fun j hj=>?_,by simpa using h2 w fun _ _ _ _=>rfl⟩
 obtain rfl:j=0:=by omega
 rw [Kj,show 0+(i*1+0)=i by omega,hk.cell,h1]
 rfl
theorem rS {N g:Nat} {gb:Option Nat} {w:World} {t:TypeId} {l:List Nat} (h:Blk w g t (Ca l).toArray) (hl:∀ x∈l,x<18446744073709551616) (hm:l.length <= maxLen) (hN:N <= g) (hg:some g≠gb):df N gb w (.slice (some ⟨g,0,none⟩) l.length l.length) l :=
 fun _ hu=>Ix (t:=t) ((hu g hN h.lt hg).trans h) hl hm
theorem sS {N g n:Nat} {gb:Option Nat} {w:World} {t:TypeId} {l:List Nat} (h:Blk w g t (Ca l).toArray) (hn:l.length=n) (hl:∀ x∈l,x<18446744073709551616) (hm:n <= maxLen) (hN:N <= g) (hg:some g≠gb):df N gb w (.slice (some ⟨g,0,none⟩) n n) l:=by
 subst hn;exact rS h hl hm hN hg
structure Ss (p n:Nat):Prop where
 pos:1 <= n
 le:n <= 4096
 two:∃ j,n=2^j
 dvd:(p-1)%n=0
def Wr (p n:Nat):Nat:=(Yc p).1^((p-1) / n)%p
theorem uL:∀ j:Fin 13,bits .and .i64 ((2^j.val:Nat):Int) (((2^j.val:Nat):Int)-1)=0:=by decide +kernel
theorem YE {j:Nat} (h:2^j <= 4096):j<13:=by
 rcases Nat.lt_or_ge j 13 with h1 | h1
 ·exact h1
 ·have:2^13 <= 2^j:=Nat.pow_le_pow_right (by omega) h1
  omega
theorem OQ:∀ b:Fin 257,1 <= b.val -> b.val &&& (b.val-1)=0 -> ∃ j:Fin 9,b.val=2^j.val:=by decide +kernel
theorem nN {p:Nat} (h:Db p=true):(Yc p).1<p:=by
 rcases Hw h with rfl | rfl | rfl | rfl | rfl | rfl | rfl <;> decide
theorem LM (p n:Nat) (w:World) (hp:Db p=true) (hn:Ss p n) :
  Calls Tryz.prog 218 #[fv p, .int .i64 n] w fun e w'=>e= .returned (.tuple #[.int .u64 (Wr p n:Int), .bool true]) /\ Below w.heap.size w w':=by
 obtain ⟨h1,h2,h3,h4⟩:=hn;obtain ⟨Pd,Lb⟩:=nc hp;have HV:=zH (fun w=>Pj p w hp)
 have HG:=zH (fun w=>kH p w hp)
 have hand:bits .and .i64 (n:Int) ((n:Int)-1)=0:=by
  obtain ⟨j,hj⟩:=h3;have:=uL ⟨j,YE (by omega)⟩
  simp only at this;rw [<- hj] at this;exact this
 obtain ⟨pm,jj⟩:=zEX (p-1);obtain ⟨m,hm⟩:=zEX (pm / n);have HP:=zH (fun w=>xD p (Yc p).1 m w hp (nN hp) (by rw [hm];exact Nat.lt_of_le_of_lt (Nat.div_le_self _ _) (by omega)))
 have hR:Wr p n=(Yc p).1^m%p:=by unfold Wr;rw [hm,jj]
 rw [hR];have ep:IntKind.u64.wrap ((p:Int)-1)=(pm:Int):=by rw [jj];exact Yn p 1 (by omega) Lb
 have ep2:(p:Int)-1=(pm:Int):=by omega
 have ep3:IntKind.u64.wrap (pm:Int)=(pm:Int):=pg _ (by omega)
 have en:IntKind.u64.wrap (n:Int)=(n:Int):=pg _ (by omega)
 have em:IntKind.u64.wrap (m:Int)=(m:Int):=pg _ (by rw [hm];exact Nat.lt_of_le_of_lt (Nat.div_le_self _ _) (by omega))
 have r1:(pm:Int)%(n:Int)=0:=by rw [jj];omega
 have r2:(pm:Int).tmod (n:Int)=0:=by rw [Int.tmod_eq_emod_of_nonneg (by omega)];exact r1
 have r3:(pm:Int) / (n:Int)=(m:Int):=by rw [hm];rfl
 have r4:(pm:Int).tdiv (n:Int)=(m:Int):=by rw [hm];rfl
 have n0:¬((n:Int)=0):=by omega
 have n5:¬(n=0):=by omega
 have n1:(1:Int) <= (n:Int):=by omega
 have n2:((n:Int) == 0)=false:=by rw [beq_eq_false_iff_ne];exact n0
 have n3:(0:Int)<(n:Int):=by omega
 have n4:(n:Int) <= 4096:=by omega
 clear hR hm Pd Lb h1 h2 h3 h4 hp;generalize (Yc p).1=gn at *;generalize gn^m%p=r at *;unfold fv at *;have aa:Below w.heap.size w (w.alloc (.cells #[.int .u64 p] 175)):=(Below.refl _ _).alloc zR _;have kf:=Blk.new w 175 #[.int .u64 p];clear jj;go_enter Tryz.func218,Tryz.ntmps218
 go_wp2_with fail
 refine (HV.out _).mono ?_;rintro e' w1 ⟨rfl,ya⟩;replace kf:=ea kf ya;replace aa:=ja aa ya;clear ya;have cf:=kf.cell;have lf:=kf.lt;go_wp2_with fail
 refine xd (Bb) (pa) [] [] [0,1,2,3,4,5,6,7,8,9,10,11] (by kernel_rfl) (by kernel_rfl) ?_
 refine yd (pa) ?_;intro Wc da;refine Uc ?_;refine Jb (pa) rfl rfl rfl rfl (fun _ _ _ h=>h) (fun _=>by go_simp <;> rfl) (fun w' hR=>HG.out _) ?_
 simp only [Act.put,zLa,zLb,zLc];refine Uc ?_;refine Jb (pa) rfl rfl rfl rfl (fun _ _ _ h=>h) (fun _=>by go_simp <;> rfl) (fun w' hR=>HP.out _) ?_
 simp only [Act.put,zLa,zLb,zLc];refine Uc ?_;refine im rfl ?_;intro wd Rc;replace da:=(pa).trans _ _ _ da Rc;clear Rc;go_wp2
 go_ret2
 exact ⟨rfl,ja aa.drew da⟩
theorem FF (p n:Nat) (w:World) (hp:Db p=true) (hn:Ss p n) :
  Calls Tryz.prog 174 #[fv p, .int .i64 n] w fun e w'=>e= .returned (.tuple #[.int .u64 (Wr p n:Int), .bool true]) /\ Below w.heap.size w w':=by
 have HR:=zH (fun w=>LM p n w hp hn)
 have d1:decide ((n:Int)<1)=false:=decide_eq_false (by have:=hn.pos;omega)
 have d2:decide ((4096:Int)<(n:Int))=false:=decide_eq_false (by have:=hn.le;omega)
 clear hn hp;generalize Wr p n=r at *;unfold fv at *;have aa:Below w.heap.size w (w.alloc (.cells #[.int .u64 p] 175)):=(Below.refl _ _).alloc zR _;go_enter Tryz.func174,Tryz.ntmps174
 go_wp2_with fail
 refine (HR.out _).mono ?_;rintro e' w1 ⟨rfl,ya⟩;go_wp2
 go_ret2
 exact ⟨rfl,ja aa ya⟩
def uf (F G:Nat -> Nat) (i:Nat):Nat -> Nat:=fun k=>if k<i then F k else G k
theorem gy (n:Nat) (F G:Nat -> Nat):Fa n (uf F G 0)=Fa n G:=ui fun k _=>by simp [uf]
theorem Mz (n:Nat) (F G:Nat -> Nat):Fa n (uf F G n)=Fa n F:=ui fun k hk=>by simp [uf,hk]
theorem yu {n i:Nat} (F G:Nat -> Nat) (h:i<n):(Fa n (uf F G i))[i]?=some (.int .u64 (G i:Int)):=by rw [Fe _ h];simp [uf]
theorem zu {n i v:Nat} {F G:Nat -> Nat} (h:v=F i):(Fa n (uf F G i)).setIfInBounds i (.int .u64 v)=Fa n (uf F G (i+1)):=by
 rw [Tm];refine ui fun k _=>?_
 simp only [Pe,uf];by_cases e:k=i
 ·subst e;rw [if_pos rfl,if_pos (by omega),h]
 ·rw [if_neg e]
  by_cases h2:k<i
  ·rw [if_pos h2,if_pos (by omega)]
  ·rw [if_neg h2,if_neg (by omega)]
theorem Pg {w:World} (g i:Nat) (v:Value):w.grownBy (w.setCell ⟨g,i,none⟩ v) (some g):=Yd (p:=⟨g,i,none⟩) (Lc w _) (.inl rfl) _
def ay (p:Nat) (l:List Nat) (i:Nat):Nat:=l.getD i 0%p
theorem XS (p:Nat) (A:Option Addr) (n c:Nat) (l:List Nat) (w:World) (hp:Db p=true) (hl:RWd w [.slice A n c] l) (hn:n <= 100000) :
  Calls Tryz.prog 180 #[fv p, .slice A n c] w fun e w'=>∃ g,e= .returned (.slice (some ⟨g,0,none⟩) n n) /\ w.heap.size <= g /\ Blk w' g 22 (Fa n (ay p l)) /\ Below w.heap.size w w':=by
 have HR:=zH (fun x w=>KA p x w hp)
 obtain ⟨rfl,h1,h2,oa,za⟩:=zb hl;clear hl;have za:=za;unfold fv at *;have mk:=Fp l.length (by omega)
 have gm:(l.length:Int) <= 100000:=by omega
 go_enter Tryz.func180,Tryz.ntmps180
 go_wp2_with fail
 obtain ⟨kf,ka,aa,-⟩:=ah w 175 22 #[.int .u64 p] (Fa l.length fun _=>0)
 have Af:w.heap.size<w.heap.size+1:=by omega
 clear mk;generalize (w.alloc _).alloc _=w2 at kf ka aa |-;generalize w.heap.size+1=ga at ka Af |-;rw [<- gy _ (ay p l)] at ka;go_wp2_with fail
 go_loopw [6,7,13] (fun _ _ y wr=>∃ i:Nat,i <= l.length /\ y= .int .i64 i /\ Blk wr w.heap.size 175 #[.int .u64 p] /\ Blk wr ga 22 (Fa l.length (uf (ay p l) (fun _=>0) i)) /\ Below w.heap.size w wr) (fun _ _ y _=>l.length-(intOf y).toNat)
 case atStart=>exact ⟨0,Nat.zero_le _,rfl,kf,ka,aa⟩
 case round =>
  clear kf ka aa;obtain ⟨i,hi,rfl,kf,ka,aa⟩:=hrel;by_cases Zq:i<l.length
  ·have g1:(0:Int) <= (i:Int):=by omega
   have g2:(i:Int)<(l.length:Int):=by omega
   obtain ⟨b,q,rfl,Za,hc⟩:=Ye (za.below aa) Zq;obtain ⟨x,hx⟩:=zEX (l.getD i 0);obtain ⟨z,hz⟩:=zEX (x%p);have HZ:=zH (show z=ay p l i by rw [hz,hx];rfl)
   have HX:=zH (fun w=>by have:=HR.out x w;rw [<- hz] at this;exact this)
   rw [<- hx] at hc;clear hx hz;have cf:=kf.cell;go_wp2_with fail
   refine (HX.out _).mono ?_;rintro e w5 ⟨rfl,Ma⟩;have Fl:ga<wr.heap.size:=ka.lt;replace kf:=ea kf Ma;replace ka:=ea ka Ma;replace aa:=ja aa Ma;clear hc cf Ma;have fa:=ka.frozen;have ca:=ka.cell i;rw [yu _ _ Zq] at ca;go_wp2_with fail
   have hg:=Pg (w:=w5) ga i (.int .u64 z);replace kf:=Dc kf hg;replace aa:=yc aa hg;replace ka:=ka.set_ i (.int .u64 z);rw [zu HZ.out] at ka;clear hg fa ca
   go_roundw
   case rel=>exact ⟨i+1,by omega,by go_num,kf,ka,aa⟩
   case measure=>simp [intOf];omega
  ·obtain rfl:i=l.length:=by omega
   rw [Mz] at ka;go_wp2;go_ret
   exact ⟨ga,rfl,by omega,ka,aa⟩
structure St where
 a:Nat
 b:Nat
 c:Nat
def St.val (s:St):Value:=.agg #[.int .u64 s.a, .int .u64 s.b, .int .u64 s.c]
def St.cs (s:St):Array Value:=#[.int .u64 s.a, .int .u64 s.b, .int .u64 s.c]
def St.ok (s:St):Prop:=s.a<18446744073709551616 /\ s.b<18446744073709551616 /\ s.c<18446744073709551616
def dk (k:Nat):Nat:=k*11400714819323198485%18446744073709551616
def Ui (p r i:Nat):Nat:=dk (3*r+i+1)%p
def Gh (p:Nat) (s:St):Nat:=((s.a+s.b)%p+s.c)%p
def Lr (p:Nat) (s:St):St:=⟨(s.a+Gh p s)%p,(s.b+Gh p s)%p,(s.c+Gh p s)%p⟩
theorem eQ (p r i:Nat) (w:World) (hp:Db p=true) (hr:r<8) (hi:i<3) :
  Calls Tryz.prog 231 #[.int .u64 p, .int .i64 r, .int .i64 i] w fun e w'=>e= .returned (.int .u64 (Ui p r i:Int)) /\ Below w.heap.size w w':=by
 have HR:=zH (fun w=>KA p (dk (3*r+i+1)) w hp)
 have HC:=zH (show Ui p r i=dk (3*r+i+1)%p from rfl)
 rw [HC.out];clear HC hp;obtain ⟨k,hk⟩:=zEX (3*r+i+1);rw [<- hk] at HR |-;have g1:(r:Int)<8:=by omega
 have g2:(i:Int) <= 2:=by omega
 have e1:3*(r:Int)+(i:Int)+1=(k:Int):=by omega
 have e2:IntKind.u64.wrap (k:Int)=(k:Int):=pg _ (by omega)
 have e3:IntKind.u64.wrap ((k:Int)*11400714819323198485)=(dk k:Int):=by
  rw [IntKind.wrap_u64];have:((k:Int)*11400714819323198485)=((k*11400714819323198485:Nat):Int):=by rw [Int.natCast_mul];rfl
  rw [this]
  rfl
 clear hk hr hi;generalize dk k%p=m at *;generalize dk k=z at *;unfold fv at *;go_enter Tryz.func231,Tryz.ntmps231
 go_wp2_with fail
 refine (HR.out _).mono ?_;rintro e w1 ⟨rfl,hb⟩;go_wp2;go_ret
 exact ⟨rfl,hb⟩
theorem jQ (p:Nat) (s:St) (w:World) (hp:Db p=true) :
  Calls Tryz.prog 232 #[.int .u64 p,s.val] w fun e w'=>e= .returned (Lr p s).val /\ Below w.heap.size w w':=by
 obtain ⟨a,b,c⟩:=s;have H1:=zH (fun w=>Wi p a b w hp)
 have H2:=zH (fun w=>Wi p ((a+b)%p) c w hp)
 have H3:=zH (fun w=>Wi p a (Gh p ⟨a,b,c⟩) w hp)
 have H4:=zH (fun w=>Wi p b (Gh p ⟨a,b,c⟩) w hp)
 have H5:=zH (fun w=>Wi p c (Gh p ⟨a,b,c⟩) w hp)
 have HM:=zH (show (Lr p ⟨a,b,c⟩).val= .agg #[.int .u64 (((a+Gh p ⟨a,b,c⟩)%p:Nat):Int), .int .u64 (((b+Gh p ⟨a,b,c⟩)%p:Nat):Int), .int .u64 (((c+Gh p ⟨a,b,c⟩)%p:Nat):Int)] from rfl)
 rw [HM.out];have HS:=zH (show ((a+b)%p+c)%p=Gh p ⟨a,b,c⟩ from rfl)
 rw [HS.out] at H2;clear HM HS hp;generalize (a+Gh p ⟨a,b,c⟩)%p=x at *;generalize (b+Gh p ⟨a,b,c⟩)%p=y at *;generalize (c+Gh p ⟨a,b,c⟩)%p=z at *;generalize Gh p ⟨a,b,c⟩=m at *;generalize (a+b)%p=ab at *;unfold St.val;unfold fv at *;simp only;obtain ⟨k1,k2,k3,aa,Ra⟩:=Bl w 237 237 175 #[.int .u64 a, .int .u64 b, .int .u64 c] #[.int .u64 0, .int .u64 0, .int .u64 0] #[.int .u64 p];go_enter Tryz.func232,Tryz.ntmps232
 go_wp2_with fail
 generalize ((w.alloc _).alloc _).alloc _=w0 at k1 k2 k3 aa Ra |-;have c1:=k1.cell;have c3:=k3.cell;have l1:=k1.lt;have l3:=k3.lt;refine xd (Bb) (pa) [] [] [0,1,2,3,4,5,6,7,8,9,10] (by kernel_rfl) (by kernel_rfl) ?_
 refine yd (pa) ?_;intro Wc da;refine Uc ?_;refine Jb (pa) rfl rfl rfl rfl (fun _ _ _ h=>h) (fun _=>by go_simp <;> rfl) (fun w' hR=>H1.out _) ?_
 simp only [Act.put,zLa,zLb,zLc];refine Uc ?_;refine Jb (pa) rfl rfl rfl rfl (fun _ _ _ h=>h) (fun _=>by go_simp <;> rfl) (fun w' hR=>H2.out _) ?_
 simp only [Act.put,zLa,zLb,zLc];refine Uc ?_;refine im rfl ?_;intro wd Rc;replace da:=(pa).trans _ _ _ da Rc;clear Rc;replace k1:=k1.drew.below da k1.lt;replace k2:=k2.drew.below da k2.lt;replace k3:=k3.drew.below da k3.lt;replace aa:=ja aa.drew da;have hsw:w.heap.size+1<wd.heap.size:=k2.lt;clear c1 c3 l1 l3 da Ra H1 H2;have c1:=k1.cell;have c3:=k3.cell;have l1:=k1.lt;have l3:=k3.lt;go_wp2_with fail
 refine xd (Bb) (pa) [16] [16] [0,1,2,3,4,5,6,7,8,9,10,11,12,13,14,15,16] (by kernel_rfl) (by kernel_rfl) ?_
 refine yd (pa) ?_;intro Wc da;refine Qb ?_;refine Jb (pa) rfl rfl rfl rfl (fun _ _ _ h=>h) (fun _=>by go_simp <;> rfl) (fun w' hR=>H3.out _) ?_
 simp only [Act.put,zLa,zLb,zLc];refine Qb ?_;refine Jb (pa) rfl rfl rfl rfl (fun _ _ _ h=>h) (fun _=>by go_simp <;> rfl) (fun w' hR=>H4.out _) ?_
 simp only [Act.put,zLa,zLb,zLc];refine Qb ?_;refine Jb (pa) rfl rfl rfl rfl (fun _ _ _ h=>h) (fun _=>by go_simp <;> rfl) (fun w' hR=>H5.out _) ?_
 simp only [Act.put,zLa,zLb,zLc];refine Qb ?_;refine Hf rfl rfl rfl rfl ?_;intro wh xb;replace da:=(pa).trans _ _ _ da xb;replace k2:=k2.drew.below da k2.lt;replace aa:=ja aa.drew da;have c2:=k2.cell;have f2:=k2.frozen;have l2:=k2.lt;go_simp;refine ⟨fun h=>Bool.noConfusion h,?_⟩
 have hg:=Ki (w:=wh) (g:=w.heap.size+1) (.int .u64 x) (.int .u64 y) (.int .u64 z);have kz:=Ji k2 (.int .u64 x) (.int .u64 y) (.int .u64 z);clear c2 f2 k2;generalize ((World.setCell wh _ _).setCell _ _).setCell _ _=Wf at hg kz |-;have cz:=kz.cell;refine Uf rfl ?_;go_wp2;exact bodyPost_ret (v:=.agg #[.int .u64 x, .int .u64 y, .int .u64 z]) (by simp [results,Tryz.results232,go_sem,cz]) rfl ⟨rfl,aa.trans (Nh hg (by omega) (by omega))⟩
def Dj (p r i x:Nat):Nat:=((x+Ui p r i)%p)^(Yc p).2.2%p
def St.at_ (s:St) (i:Nat):Nat:=if i=0 then s.a else if i=1 then s.b else s.c
def dm (f:Nat -> Nat -> Nat) (s:St):Nat -> St
 | 0=>s
 | 1=>⟨f 0 s.a,s.b,s.c⟩
 | 2=>⟨f 0 s.a,f 1 s.b,s.c⟩
 | _=>⟨f 0 s.a,f 1 s.b,f 2 s.c⟩
def dS (p r:Nat) (s:St):St:=Lr p (dm (Dj p r) s 3)
def Ii (p:Nat) (s:St):Nat -> St
 | 0=>s
 | r+1=>dS p r (Ii p s r)
def zj (p:Nat) (s:St):St:=Ii p s 8
theorem St.cs_at (s:St) {i:Nat} (h:i<3):s.cs[i]?=some (.int .u64 (s.at_ i:Int)):=by
 rcases (show i=0 \/ i=1 \/ i=2 by omega) with rfl | rfl | rfl <;> rfl
theorem uK (f:Nat -> Nat -> Nat) (s:St) {i:Nat} (h:i<3):(dm f s i).at_ i=s.at_ i:=by
 rcases (show i=0 \/ i=1 \/ i=2 by omega) with rfl | rfl | rfl <;> rfl
theorem vK (f:Nat -> Nat -> Nat) (s:St) {i:Nat} (h:i<3):(dm f s i).cs.setIfInBounds i (.int .u64 (f i (s.at_ i):Int))=(dm f s (i+1)).cs:=by
 rcases (show i=0 \/ i=1 \/ i=2 by omega) with rfl | rfl | rfl <;> simp [dm,St.cs,St.at_]
theorem aK {p:Nat} (h:Db p=true):(Yc p).1<18446744073709551616 /\ (Yc p).2.2<18446744073709551616:=by
 rcases Hw h with rfl | rfl | rfl | rfl | rfl | rfl | rfl <;> exact ⟨by decide,by decide⟩
theorem pQ (p:Nat) (s:St) (w:World) (hp:Db p=true) :
  Calls Tryz.prog 200 #[.int .u64 p,s.val] w fun e w'=>e= .returned (zj p s).val /\ Below w.heap.size w w':=by
 have HV:=zH (fun w=>Pj p w hp)
 have HE:=zH (fun w=>IM p w hp)
 have HC:=zH (fun r i w hr hi=>eQ p r i w hp hr hi)
 have HA:=zH (fun a b w=>Wi p a b w hp)
 have HP:=zH (fun a n w hn=>JM p a n w hp hn)
 have HM:=zH (fun s w=>jQ p s w hp)
 have zi:=(aK hp).2;have HSB:=zH (show ∀ r i x,Dj p r i x=((x+Ui p r i)%p)^(Yc p).2.2%p from fun _ _ _=>rfl)
 clear hp;unfold fv at *;generalize (Yc p).2.2=ex at *;have Iu:=zH zi;clear zi;obtain ⟨k1,k2,k3,aa,Ra⟩:=Bl w 237 237 175 s.cs #[.int .u64 0, .int .u64 0, .int .u64 0] #[.int .u64 p];have HPO:=zH (show (zj p s).val=(Ii p s 8).val from rfl)
 rw [HPO.out];clear HPO;unfold St.cs at k1 k2 k3 aa Ra;have ev:s.val= .agg #[.int .u64 s.a, .int .u64 s.b, .int .u64 s.c]:=rfl;rw [ev];clear ev;go_enter Tryz.func200,Tryz.ntmps200
 go_wp2_with fail
 generalize ((w.alloc _).alloc _).alloc _=w0 at k1 k2 k3 aa Ra |-;refine (HV.out _).mono ?_;rintro e w1 ⟨rfl,ya⟩;replace k1:=ea k1 ya;replace k2:=ea k2 ya;replace k3:=ea k3 ya;replace aa:=ja aa ya;clear ya Ra;have c3:=k3.cell;go_wp2_with fail
 refine (HE.out _).mono ?_;rintro e w2 ⟨rfl,xa⟩;replace k1:Blk w2 w.heap.size 237 (Ii p s 0).cs:=ea k1 xa;replace k2:=ea k2 xa;replace k3:=ea k3 xa;replace aa:=ja aa xa;clear xa c3 HV HE;go_wp2_with fail
 go_loopw [17] (fun i wr=>∃ r:Nat,r <= 8 /\ i= .int .i64 r /\ Blk wr w.heap.size 237 (Ii p s r).cs /\ Blk wr (w.heap.size+1) 237 #[.int .u64 0, .int .u64 0, .int .u64 0] /\ Blk wr (w.heap.size+1+1) 175 #[.int .u64 p] /\ Below w.heap.size w wr) (fun i _=>8-(intOf i).toNat)
 case atStart=>exact ⟨0,Nat.zero_le _,rfl,k1,k2,k3,aa⟩
 case round =>
  clear k1 k2 k3 aa;obtain ⟨r,hr,rfl,k1,k2,k3,aa⟩:=hrel;by_cases oa:r<8
  ·have g1:(r:Int)<8:=by omega
   obtain ⟨t,ht⟩:=zEX (Ii p s r);rw [<- ht] at k1;have HT:=zH (show Ii p s (r+1)=Lr p (dm (Dj p r) t 3) by rw [Ii,<- ht];rfl)
   clear ht;go_wp2_with fail
   go_loopw [20] (fun i wr=>∃ m:Nat,m <= 3 /\ i= .int .i64 m /\ Blk wr w.heap.size 237 (dm (Dj p r) t m).cs /\ Blk wr (w.heap.size+1) 237 #[.int .u64 0, .int .u64 0, .int .u64 0] /\ Blk wr (w.heap.size+1+1) 175 #[.int .u64 p] /\ Below w.heap.size w wr) (fun i _=>3-(intOf i).toNat)
   case atStart=>exact ⟨0,Nat.zero_le _,rfl,k1,k2,k3,aa⟩
   case round =>
    clear k1 k2 k3 aa;obtain ⟨m,hm,rfl,k1,k2,k3,aa⟩:=hrel;by_cases Xc:m<3
    ·have g2:(m:Int)<3:=by omega
     have cm:=k1.cell m;rw [St.cs_at _ Xc,uK _ _ Xc] at cm;have wy:=zH (vK (Dj p r) t Xc);have HSV:=zH (HSB.out r m (t.at_ m));have Bg:=zH (fun w=>HC.out r m w oa Xc)
     have Zc:=zH (fun w=>HA.out (t.at_ m) (Ui p r m) w)
     have oq:=zH (fun w=>HP.out ((t.at_ m+Ui p r m)%p) ex w Iu.out)
     rw [<- HSV.out] at oq;clear HSV;generalize Dj p r m (t.at_ m)=sv at *;generalize (t.at_ m+Ui p r m)%p=av at *;generalize Ui p r m=cv at *;generalize t.at_ m=xv at *;have c3:=k3.cell;have l1:=k1.lt;have l3:=k3.lt;go_wp2_with fail
     refine xd (Bb) (pa) [14] [14] [0,1,2,3,4,5,6,7,8,9,10,11,12,13,14] (by kernel_rfl) (by kernel_rfl) ?_
     refine yd (pa) ?_;intro Wc da;refine Qb ?_;refine Jb (pa) rfl rfl rfl rfl (fun _ _ _ h=>h) (fun _=>by go_simp <;> rfl) (fun w' hR=>Bg.out _) ?_
     simp only [Act.put,zLa,zLb,zLc];refine Qb ?_;refine Jb (pa) rfl rfl rfl rfl (fun _ _ _ h=>h) (fun _=>by go_simp <;> rfl) (fun w' hR=>Zc.out _) ?_
     simp only [Act.put,zLa,zLb,zLc];refine Qb ?_;refine Jb (pa) rfl rfl rfl rfl (fun _ _ _ h=>h) (fun _=>by go_simp <;> rfl) (fun w' hR=>oq.out _) ?_
     simp only [Act.put,zLa,zLb,zLc];refine Qb ?_;refine Hf rfl rfl rfl rfl ?_;intro wh xb;replace da:=(pa).trans _ _ _ da xb;replace k1:=k1.drew.below da k1.lt;replace k2:=k2.drew.below da k2.lt;replace k3:=k3.drew.below da k3.lt;replace aa:=ja aa.drew da;have f1:=k1.frozen m;have cm2:wh.cell? ⟨w.heap.size,m,none⟩=some (.int .u64 xv):=PG da cm;clear c3 l1 l3 cm;go_simp;refine ⟨fun h=>Bool.noConfusion h,?_⟩
     have hg:wh.grownBy (wh.setCell ⟨w.heap.size,m,none⟩ (.int .u64 sv)) (some w.heap.size):=Yd (p:=⟨w.heap.size,m,none⟩) (Lc wh _) (.inl rfl) _;replace k1:=k1.set_ m (.int .u64 sv);rw [wy.out] at k1;replace k2:=k2.grown hg (fun e=>by have:=Option.some.inj e;omega)
     replace k3:=k3.grown hg (fun e=>by have:=Option.some.inj e;omega)
     replace aa:=aa.trans (Nh hg aa.size zR);clear hg f1 cm2;generalize wh.setCell _ _=Wf at k1 k2 k3 aa |-;refine Uf rfl ?_;go_wp2
     go_roundw
     case rel=>exact ⟨m+1,by omega,by go_num,k1,k2,k3,aa⟩
     case measure=>simp [intOf];omega
    ·obtain rfl:m=3:=by omega
     obtain ⟨q,hq⟩:=zEX (dm (Dj p r) t 3);rw [<- hq] at k1 HT;clear hq;have Bd:Blk wr w.heap.size 237 #[.int .u64 q.a, .int .u64 q.b, .int .u64 q.c]:=k1;obtain ⟨z,hz⟩:=zEX (Lr p q);rw [<- hz] at HT;have ke:=zH (show ∀ w,Calls Tryz.prog 232 #[.int .u64 p, .agg #[.int .u64 q.a, .int .u64 q.b, .int .u64 q.c]] w fun e w'=>e= .returned (.agg #[.int .u64 z.a, .int .u64 z.b, .int .u64 z.c]) /\ Below w.heap.size w w' from fun w=>by rw [hz];exact HM.out q w)
     clear hz k1;have c1:=Bd.cell;go_wp2_with fail
     refine (ke.out _).mono ?_;rintro e w5 ⟨rfl,Ma⟩;replace Bd:=Bd.below Ma Bd.lt;replace k2:=ea k2 Ma;replace k3:=ea k3 Ma;replace aa:=ja aa Ma;clear Ma c1;have c1:=Bd.cell;have f1:=Bd.frozen;go_wp2_with fail
     have hg:=Ki (w:=w5) (g:=w.heap.size) (.int .u64 z.a) (.int .u64 z.b) (.int .u64 z.c);have kz:=Ji Bd (.int .u64 z.a) (.int .u64 z.b) (.int .u64 z.c);replace k2:=k2.grown hg (fun e=>by have:=Option.some.inj e;omega)
     replace k3:=k3.grown hg (fun e=>by have:=Option.some.inj e;omega)
     replace aa:=aa.trans (Nh hg aa.size zR);clear hg c1 f1 Bd;generalize ((World.setCell w5 _ _).setCell _ _).setCell _ _=Wf at kz k2 k3 aa |-
     go_roundw
     case rel=>exact ⟨r+1,by omega,by go_num,by rw [HT.out];exact kz,k2,k3,aa⟩
     case measure=>simp [intOf];omega
  ·obtain rfl:r=8:=by omega
   obtain ⟨q,hq⟩:=zEX (Ii p s 8);rw [<- hq] at k1;have HQ:=zH hq;clear hq;have Bd:Blk wr w.heap.size 237 #[.int .u64 q.a, .int .u64 q.b, .int .u64 q.c]:=k1;have c1:=Bd.cell;have c2:=k2.cell;have f2:=k2.frozen;go_wp2_with fail
   have hg:=Ki (w:=wr) (g:=w.heap.size+1) (.int .u64 q.a) (.int .u64 q.b) (.int .u64 q.c);have kz:=Ji k2 (.int .u64 q.a) (.int .u64 q.b) (.int .u64 q.c);clear c1 c2 f2 k2;generalize ((World.setCell wr _ _).setCell _ _).setCell _ _=Wf at hg kz |-;have cz:=kz.cell;have hs:=aa.size;exact bodyPost_ret (v:=.agg #[.int .u64 q.a, .int .u64 q.b, .int .u64 q.c]) (by simp [results,Tryz.results200,go_sem,cz]) rfl ⟨by rw [<- HQ.out];rfl,aa.trans (Nh hg hs (by omega))⟩
theorem xR (p a e:Nat) (w:World) (hp:Db p=true) (he:e<18446744073709551616) :
  Calls Tryz.prog 211 #[.int .u64 p, .int .u64 a, .int .u64 e] w fun e' w'=>e'= .returned (.int .u64 ((a^e%p:Nat):Int)) /\ Below w.heap.size w w':=by
 obtain ⟨Pd,Lb⟩:=nc hp;have HO:=zH (fun w=>by have:=Tk p w Lb;rw [hp] at this;exact this)
 have HM:=zH (fun a b w=>PB p a b w hp)
 obtain ⟨n,hn⟩:=zEX (a^e%p);rw [<- hn];have HI:=zH (show 1*(a%p)^e%p=n by rw [Nat.one_mul,<- Nat.pow_mod,hn])
 have HP:=zH Pd;have p1:(0:Int)<(p:Int):=by omega
 have e1:(a:Int)%(p:Int)=((a%p:Nat):Int):=rfl;have e2:(a:Int).tmod (p:Int)=((a%p:Nat):Int):=rfl;have p3:¬(p=0):=by omega
 clear hn hp Pd Lb;generalize a%p=a0 at *;go_enter Tryz.func211,Tryz.ntmps211
 go_wp2_with fail
 refine (HO.out _).mono ?_;rintro e' w1 ⟨rfl,aa⟩;go_wp2_with fail
 clear e1 e2;go_loopw [1,2,7] (fun x y z wr=>∃ a' e' r:Nat,x= .int .u64 a' /\ y= .int .u64 e' /\ z= .int .u64 r /\ r<p /\ e'<18446744073709551616 /\ Hid (r*a'^e'%p=n) /\ Below w.heap.size w wr) (fun _ y _ _=>(intOf y).toNat)
 case atStart=>exact ⟨a0,e,1,rfl,rfl,rfl,by have:=HP.out;omega,he,HI.out,aa⟩
 case round =>
  clear aa;obtain ⟨a',e',r,rfl,rfl,rfl,Xh,he',H,Qa⟩:=hrel;by_cases h0:e'=0
  ·subst h0
   have HE:=zH (show r=n by have:=H.out;rw [Nat.pow_zero,Nat.mul_one,Nat.mod_eq_of_lt Xh] at this;exact this)
   go_wp2;go_ret
   exact ⟨by rw [HE.out];rfl,Qa⟩
  ·have g1:(0:Int)<(e':Int):=by omega
   obtain ⟨f,hf⟩:=zEX (e' / 2);have e1:(e':Int) / 2=(f:Int):=by omega
   have e2:(e':Int).tdiv 2=(f:Int):=by rw [Int.tdiv_eq_ediv_of_nonneg (by omega)];exact e1
   have HQ:=zH (fun w=>HM.out a' a' w)
   rcases (show e'%2=1 \/ e'%2=0 by omega) with Nk | Nk
   ·have eb:(e':Int)%2=1:=by omega
    have ec:(e':Int).tmod 2=1:=by rw [Int.tmod_eq_emod_of_nonneg (by omega)];exact eb
    have HF:=zH hf;have ke:=zH (fun w=>HM.out r a' w)
    have HX:=OJ p r a' e' n H.out Nk;rw [<- hf] at HX;have Df:r*a'%p<p:=Nat.mod_lt _ (by have:=HP.out;omega)
    generalize r*a'%p=s at *;generalize a'*a'%p=q at *;replace HX:=zH HX;clear Nk hf;go_wp2_with fail
    refine (ke.out _).mono ?_;rintro e w1 ⟨rfl,ya⟩;replace Qa:=Om Qa ya Qa.size;clear ya;go_wp2_with fail
    refine (HQ.out _).mono ?_;rintro e w2 ⟨rfl,xa⟩;replace Qa:=Om Qa xa Qa.size;go_wp2
    go_roundw
    case rel=>exact ⟨q,f,s,rfl,rfl,rfl,Df,by have:=HF.out;omega,HX.out,Qa⟩
    case measure=>have:=HF.out;simp [intOf];omega
   ·have eb:(e':Int)%2=0:=by omega
    have ec:(e':Int).tmod 2=0:=by rw [Int.tmod_eq_emod_of_nonneg (by omega)];exact eb
    have HF:=zH hf;have HX:=NJ p r a' e' n H.out Nk;rw [<- hf] at HX;generalize a'*a'%p=q at *;replace HX:=zH HX;clear Nk hf;go_wp2_with fail
    refine (HQ.out _).mono ?_;rintro e w2 ⟨rfl,xa⟩;replace Qa:=Om Qa xa Qa.size;go_wp2
    go_roundw
    case rel=>exact ⟨q,f,r,rfl,rfl,rfl,Xh,by have:=HF.out;omega,HX.out,Qa⟩
    case measure=>have:=HF.out;simp [intOf];omega
theorem ON {w:World} {a b c:Value}:(Instr.index 237 (.agg #[a,b,c]) (.int .i64 2)).run Tryz.prog w= .ok c w :=
 Iz (i:=2) Tryz.underlying237 WC yF (by omega) rfl
theorem pR (p:Nat) (w:World) (hp:Db p=true) :
  Calls Tryz.prog 213 #[.int .u64 p] w fun e w'=>e= .returned (.int .u64 ((Yc p).2.2:Int)) /\ Below w.heap.size w w':=by
 have HR:=zH (bK p w (nc hp).2);clear hp;unfold Hz at HR;generalize (Yc p).1=a at *;generalize (Yc p).2.1=b at *;generalize (Yc p).2.2=c at *;go_enter Tryz.func213,Tryz.ntmps213
 go_wp2_with (go_at_call 203;refine HR.out.mono ?_;rintro e w1 ⟨rfl,hb⟩)
 rw [ON,Result.andThen,Oper.upon_value];go_wp2;go_ret
 exact ⟨rfl,hb⟩
def XB (p:Nat) (l:List Nat):Nat:=l.foldl (fun s x=>(s+x)%p) 0
theorem FR (p:Nat) (A:Option Addr) (n c:Nat) (l:List Nat) (w:World) (hp:Db p=true) (hl:RWd w [.slice A n c] l) :
  Calls Tryz.prog 234 #[.int .u64 p, .slice A n c] w fun e w'=>e= .returned (.int .u64 (XB p l:Int)) /\ Below w.heap.size w w':=by
 obtain ⟨rfl,h1,h2,oa,za⟩:=zb hl;have gm:=uj h1 h2;have HA:=zH (fun a b w=>Yx p a b w hp)
 have HS:=zH (show XB p l=l.foldl (fun s x=>(s+x)%p) 0 from rfl)
 rw [HS.out];clear HS hl h1 h2 hp oa;go_enter Tryz.func234,Tryz.ntmps234
 go_wp2_with fail
 go_loopw [5,6] (fun y i wr=>∃ k:Nat,k <= l.length /\ i= .int .i64 k /\ y= .int .u64 (((l.take k).foldl (fun s x=>(s+x)%p) 0:Nat):Int) /\ Below w.heap.size w wr) (fun _ i _=>l.length-(intOf i).toNat)
 case atStart=>exact ⟨0,Nat.zero_le _,rfl,rfl,Below.refl _ _⟩
 case round =>
  obtain ⟨k,hk,rfl,rfl,Qa⟩:=hrel;by_cases oa:k<l.length
  ·obtain ⟨b,q,rfl,Za,hc⟩:=Ye (za.below Qa) oa
   have HF:=zH (BO (fun s x=>(s+x)%p) 0 l k oa)
   generalize l.getD k 0=y at *;generalize (l.take k).foldl (fun s x=>(s+x)%p) 0=s at *
   have Zc:=zH (fun w=>HA.out s y w)
   have mo:=zH (show (l.take (k+1)).foldl (fun s x=>(s+x)%p) 0=(s+y)%p from HF.out)
   clear HF;generalize (s+y)%p=z at *;have g1:(0:Int) <= (k:Int):=by omega
   have g2:(k:Int)<(l.length:Int):=by omega
   go_wp2_with fail
   refine (Zc.out _).mono ?_;rintro e w1 ⟨rfl,ya⟩;replace Qa:=Om Qa ya Qa.size;clear hc ya;go_wp2
   go_roundw
   case rel=>exact ⟨k+1,by omega,by go_num,by rw [mo.out],Qa⟩
   case measure=>simp [intOf];omega
  ·obtain rfl:k=l.length:=by omega
   rw [List.take_length];go_wp2;go_ret
   exact ⟨rfl,Qa⟩
theorem oR (p r i:Nat) (w:World) (hp:Db p=true) (hr:r<8) (hi:i<3) :
  Calls Tryz.prog 212 #[.int .u64 p, .int .i64 r, .int .i64 i] w fun e w'=>e= .returned (.int .u64 (Ui p r i:Int)) /\ Below w.heap.size w w':=by
 obtain ⟨Pd,Lb⟩:=nc hp;have HO:=zH (fun w=>by have:=Tk p w Lb;rw [hp] at this;exact this)
 have HC:=zH (show Ui p r i=dk (3*r+i+1)%p from rfl)
 rw [HC.out];clear HC hp;obtain ⟨k,hk⟩:=zEX (3*r+i+1);rw [<- hk];have g1:(r:Int) <= 7:=by omega
 have g2:(i:Int) <= 2:=by omega
 have e1:3*(r:Int)+(i:Int)+1=(k:Int):=by omega
 have e2:IntKind.u64.wrap (k:Int)=(k:Int):=pg _ (by omega)
 have e3:IntKind.u64.wrap ((k:Int)*11400714819323198485)=(dk k:Int):=by
  rw [IntKind.wrap_u64];have:((k:Int)*11400714819323198485)=((k*11400714819323198485:Nat):Int):=by rw [Int.natCast_mul];rfl
  rw [this]
  rfl
 have e4:(dk k:Int)%(p:Int)=((dk k%p:Nat):Int):=rfl;have e5:(dk k:Int).tmod (p:Int)=((dk k%p:Nat):Int):=rfl;have p1:(0:Int)<(p:Int):=by omega
 have p3:¬(p=0):=by omega
 clear hk hr hi;generalize dk k%p=m at *;generalize dk k=z at *;go_enter Tryz.func212,Tryz.ntmps212
 go_wp2_with fail
 refine (HO.out _).mono ?_;rintro e w1 ⟨rfl,hb⟩;go_wp2;go_ret
 exact ⟨rfl,hb⟩
def Ip (f:Nat -> Nat) (s:St):Nat -> St
 | 0=>⟨0,0,0⟩
 | 1=>⟨f s.a,0,0⟩
 | 2=>⟨f s.a,f s.b,0⟩
 | _=>⟨f s.a,f s.b,f s.c⟩
theorem IP (f:Nat -> Nat) (s:St) {i:Nat} (h:i<3):(Ip f s i).cs.setIfInBounds i (.int .u64 (f (s.at_ i):Int))=(Ip f s (i+1)).cs:=by
 rcases (show i=0 \/ i=1 \/ i=2 by omega) with rfl | rfl | rfl <;> simp [Ip,St.cs,St.at_]
theorem sum3 (p:Nat) (s:St):XB p [s.a,s.b,s.c]=Gh p s:=by
 simp [XB,Gh]
theorem St.lit (s:St):(Ca [s.a,s.b,s.c]).toArray=s.cs:=rfl
theorem tR (p:Nat) (s:St) (w:World) (hp:Db p=true) (hs:s.ok) :
  Calls Tryz.prog 214 #[.int .u64 p,s.val] w fun e w'=>e= .returned (Lr p s).val /\ Below w.heap.size w w':=by
 have HA:=zH (fun a b w=>Yx p a b w hp)
 have HR:=zH (show Lr p s=Ip (fun x=>(x+Gh p s)%p) s 3 from rfl)
 rw [HR.out];obtain ⟨k1,k2,k3,aa,Ra⟩:=Bl w 237 237 22 #[.int .u64 s.a, .int .u64 s.b, .int .u64 s.c] #[.int .u64 0, .int .u64 0, .int .u64 0] #[.int .u64 s.a, .int .u64 s.b, .int .u64 s.c];have PH:RWd _ [.slice (some ⟨w.heap.size+1+1,0,none⟩) 3 3] [s.a,s.b,s.c]:=Ix (l:=[s.a,s.b,s.c]) k3 (fun x hx=>by
  simp at hx
  rcases hx with rfl | rfl | rfl
  ·exact hs.1
  ·exact hs.2.1
  ·exact hs.2.2) (by simp [maxLen])
 have HSM:=zH (FR p _ 3 3 [s.a,s.b,s.c] _ hp PH);rw [sum3] at HSM;clear HR PH hp hs k3;generalize hm:Gh p s=m at *;clear hm;have ev:s.val= .agg #[.int .u64 s.a, .int .u64 s.b, .int .u64 s.c]:=rfl;rw [ev];clear ev;go_enter Tryz.func214,Tryz.ntmps214
 go_wp2_with fail
 generalize ((w.alloc _).alloc _).alloc _=w0 at k1 k2 aa Ra HSM |-;refine HSM.out.mono ?_;rintro e w1 ⟨rfl,ya⟩;replace k1:=ea k1 ya;replace k2:=ea k2 ya;replace aa:=ja aa ya;have Gc:=ya.size;clear ya HSM;have ia:=(Below.refl w1.heap.size w1).alloc zR (.cells #[.int .u64 0, .int .u64 0, .int .u64 0] 237);have k4:=Blk.new w1 237 #[.int .u64 0, .int .u64 0, .int .u64 0];replace k1:=ea k1 ia;replace k2:=ea k2 ia;replace aa:=ja aa ia;have It:w.heap.size+1<w1.heap.size:=by omega
 clear ia
 go_upto_block 0 with fail
 generalize w1.alloc _=w2 at k1 k2 k4 aa |-;generalize w1.heap.size=g at k4 It |-;clear Gc;have k4':Blk w2 g 237 (Ip (fun x=>(x+m)%p) s 0).cs:=k4
 have Bd:Blk w2 w.heap.size 237 s.cs:=k1;clear k1 k4;go_wp2_with fail
 go_loopw [7] (fun i wr=>∃ k:Nat,k <= 3 /\ i= .int .i64 k /\ Blk wr w.heap.size 237 s.cs /\ Blk wr (w.heap.size+1) 237 #[.int .u64 0, .int .u64 0, .int .u64 0] /\ Blk wr g 237 (Ip (fun x=>(x+m)%p) s k).cs /\ Below w.heap.size w wr) (fun i _=>3-(intOf i).toNat)
 case atStart=>exact ⟨0,Nat.zero_le _,rfl,Bd,k2,k4',aa⟩
 case round =>
  clear Bd k2 k4' aa;obtain ⟨k,hk,rfl,k1,k2,k4,aa⟩:=hrel;by_cases oa:k<3
  ·have g1:(k:Int)<3:=by omega
   have cm:=k1.cell k;rw [St.cs_at _ oa] at cm;obtain ⟨y,hy⟩:=zEX ((s.at_ k+m)%p);have wy:=zH (show (Ip (fun x=>(x+m)%p) s k).cs.setIfInBounds k (.int .u64 y)=(Ip (fun x=>(x+m)%p) s (k+1)).cs from by rw [hy];exact IP (fun x=>(x+m)%p) s oa)
   have Zc:=zH (fun w=>HA.out (s.at_ k) m w)
   rw [<- hy] at Zc;clear hy;have cz:=k4.cell k;rw [St.cs_at _ oa] at cz;generalize (Ip (fun x=>(x+m)%p) s k).at_ k=old at cz
   generalize s.at_ k=x at *;go_wp2_with fail
   refine (Zc.out _).mono ?_;rintro e w3 ⟨rfl,Ga⟩;have cz3:w3.cell? ⟨g,k,none⟩=some (.int .u64 old):=(Below.cell Ga (World.block_lt_of_cell? _ _ cz)).trans cz;replace k1:=ea k1 Ga;replace k2:=ea k2 Ga;replace k4:=ea k4 Ga;replace aa:=ja aa Ga;have f4:=k4.frozen k;clear cz cm Ga;go_wp2_with fail
   have hg:w3.grownBy (w3.setCell ⟨g,k,none⟩ (.int .u64 y)) (some g):=Yd (p:=⟨g,k,none⟩) (Lc w3 _) (.inl rfl) _;replace k4:=k4.set_ k (.int .u64 y);rw [wy.out] at k4;replace k1:=k1.grown hg (fun e=>by have:=Option.some.inj e;omega)
   replace k2:=k2.grown hg (fun e=>by have:=Option.some.inj e;omega)
   replace aa:=yc aa hg;clear hg f4 cz3;generalize w3.setCell _ _=Wf at k1 k2 k4 aa |-
   go_roundw
   case rel=>exact ⟨k+1,by omega,by go_num,k1,k2,k4,aa⟩
   case measure=>simp [intOf];omega
  ·obtain rfl:k=3:=by omega
   obtain ⟨q,hq⟩:=zEX (Ip (fun x=>(x+m)%p) s 3)
   rw [<- hq] at k4;have HQ:=zH hq;clear hq;have k4':Blk wr g 237 #[.int .u64 q.a, .int .u64 q.b, .int .u64 q.c]:=k4;have c4:=k4'.cell;have c2:=k2.cell;have f2:=k2.frozen;go_wp2_with fail
   have hg:=Ki (w:=wr) (g:=w.heap.size+1) (.int .u64 q.a) (.int .u64 q.b) (.int .u64 q.c);have kz:=Ji k2 (.int .u64 q.a) (.int .u64 q.b) (.int .u64 q.c);clear c4 c2 f2 k2;generalize ((World.setCell wr _ _).setCell _ _).setCell _ _=Wf at hg kz |-;have cz:=kz.cell;have hs:=aa.size;exact bodyPost_ret (v:=.agg #[.int .u64 q.a, .int .u64 q.b, .int .u64 q.c]) (by simp [results,Tryz.results214,go_sem,cz]) rfl ⟨by rw [<- HQ.out];rfl,aa.trans (Nh hg hs (by omega))⟩
theorem St.ok_of_lt {s:St} {p:Nat} (hp:p<18446744073709551616) (h1:s.a<p) (h2:s.b<p) (h3:s.c<p):s.ok:=⟨by omega,by omega,by omega⟩
theorem xS {p:Nat} (h1:0<p) (r i x:Nat):Dj p r i x<p:=Nat.mod_lt _ h1
theorem SJ (p:Nat) (s:St) (w:World) (hp:Db p=true) :
  Calls Tryz.prog 163 #[.int .u64 p,s.val] w fun e w'=>e= .returned (zj p s).val /\ Below w.heap.size w w':=by
 obtain ⟨Pd,Lb⟩:=nc hp;have HV:=zH (fun w=>by have:=Tk p w Lb;rw [hp] at this;exact this)
 have HE:=zH (fun w=>pR p w hp)
 have HC:=zH (fun r i w hr hi=>oR p r i w hp hr hi)
 have HA:=zH (fun a b w=>Yx p a b w hp)
 have HP:=zH (fun a n w hn=>xR p a n w hp hn)
 have HM:=zH (fun s w h=>tR p s w hp h)
 have HSO:=zH (show ∀ (f:Nat -> Nat -> Nat) (t:St),(∀ i x,f i x<p) -> (dm f t 3).ok from fun f t h=>St.ok_of_lt Lb (h 0 _) (h 1 _) (h 2 _))
 have HSL:=zH (show ∀ r i x,Dj p r i x<p from fun r i x=>xS (by omega) r i x)
 have zi:=(aK hp).2;have HSB:=zH (show ∀ r i x,Dj p r i x=((x+Ui p r i)%p)^(Yc p).2.2%p from fun _ _ _=>rfl)
 clear hp Pd Lb;generalize (Yc p).2.2=ex at *;have Iu:=zH zi;clear zi;obtain ⟨k1,k2,aa,Ra⟩:=ah w 237 237 #[.int .u64 s.a, .int .u64 s.b, .int .u64 s.c] #[.int .u64 0, .int .u64 0, .int .u64 0];have HPO:=zH (show (zj p s).val=(Ii p s 8).val from rfl)
 rw [HPO.out];clear HPO;have ev:s.val= .agg #[.int .u64 s.a, .int .u64 s.b, .int .u64 s.c]:=rfl;rw [ev];clear ev;go_enter Tryz.func163,Tryz.ntmps163
 go_wp2_with fail
 generalize (w.alloc _).alloc _=w0 at k1 k2 aa Ra |-;refine (HV.out _).mono ?_;rintro e w2 ⟨rfl,xa⟩;replace k1:Blk w2 w.heap.size 237 (Ii p s 0).cs:=ea k1 xa;replace k2:=ea k2 xa;replace aa:=ja aa xa;clear xa Ra HV;go_wp2_with fail
 go_loopw [5] (fun i wr=>∃ r:Nat,r <= 8 /\ i= .int .i64 r /\ Blk wr w.heap.size 237 (Ii p s r).cs /\ Blk wr (w.heap.size+1) 237 #[.int .u64 0, .int .u64 0, .int .u64 0] /\ Below w.heap.size w wr) (fun i _=>8-(intOf i).toNat)
 case atStart=>exact ⟨0,Nat.zero_le _,rfl,k1,k2,aa⟩
 case round =>
  clear k1 k2 aa;obtain ⟨r,hr,rfl,k1,k2,aa⟩:=hrel;by_cases oa:r<8
  ·have g1:(r:Int)<8:=by omega
   obtain ⟨t,ht⟩:=zEX (Ii p s r);rw [<- ht] at k1;have HT:=zH (show Ii p s (r+1)=Lr p (dm (Dj p r) t 3) by rw [Ii,<- ht];rfl)
   clear ht;go_wp2_with fail
   go_loopw [6] (fun i wr=>∃ m:Nat,m <= 3 /\ i= .int .i64 m /\ Blk wr w.heap.size 237 (dm (Dj p r) t m).cs /\ Blk wr (w.heap.size+1) 237 #[.int .u64 0, .int .u64 0, .int .u64 0] /\ Below w.heap.size w wr) (fun i _=>3-(intOf i).toNat)
   case atStart=>exact ⟨0,Nat.zero_le _,rfl,k1,k2,aa⟩
   case round =>
    clear k1 k2 aa;obtain ⟨m,hm,rfl,k1,k2,aa⟩:=hrel;by_cases Xc:m<3
    ·have g2:(m:Int)<3:=by omega
     have cm:=k1.cell m;rw [St.cs_at _ Xc,uK _ _ Xc] at cm;have wy:=zH (vK (Dj p r) t Xc);have HSV:=zH (HSB.out r m (t.at_ m));have Bg:=zH (fun w=>HC.out r m w oa Xc)
     have Zc:=zH (fun w=>HA.out (t.at_ m) (Ui p r m) w)
     have oq:=zH (fun w=>HP.out ((t.at_ m+Ui p r m)%p) ex w Iu.out)
     rw [<- HSV.out] at oq;clear HSV;generalize Dj p r m (t.at_ m)=sv at *;generalize (t.at_ m+Ui p r m)%p=av at *;generalize Ui p r m=cv at *;generalize t.at_ m=xv at *;have l1:=k1.lt;go_wp2_with fail
     refine xd (Bb) (pa) [15] [15] [0,1,2,3,4,5,6,7,8,9,10,11,12,13,14,15] (by kernel_rfl) (by kernel_rfl) ?_
     refine yd (pa) ?_;intro Wc da;refine Qb ?_;refine Jb (pa) rfl rfl rfl rfl (fun _ _ _ h=>h) (fun _=>by go_simp <;> rfl) (fun w' hR=>Bg.out _) ?_
     simp only [Act.put,zLa,zLb,zLc];refine Qb ?_;refine Jb (pa) rfl rfl rfl rfl (fun _ _ _ h=>h) (fun _=>by go_simp <;> rfl) (fun w' hR=>Zc.out _) ?_
     simp only [Act.put,zLa,zLb,zLc];refine Qb ?_;refine Jb (pa) rfl rfl rfl rfl (fun _ _ _ h=>h) (fun _=>by go_simp <;> rfl) (fun w' hR=>HE.out _) ?_
     simp only [Act.put,zLa,zLb,zLc];refine Qb ?_;refine Jb (pa) rfl rfl rfl rfl (fun _ _ _ h=>h) (fun _=>by go_simp <;> rfl) (fun w' hR=>oq.out _) ?_
     simp only [Act.put,zLa,zLb,zLc];refine Qb ?_;refine Hf rfl rfl rfl rfl ?_;intro wh xb;replace da:=(pa).trans _ _ _ da xb;replace k1:=k1.drew.below da k1.lt;replace k2:=k2.drew.below da k2.lt;replace aa:=ja aa.drew da;have f1:=k1.frozen m;have cm2:wh.cell? ⟨w.heap.size,m,none⟩=some (.int .u64 xv):=PG da cm;clear l1 cm;go_simp;refine ⟨fun h=>Bool.noConfusion h,?_⟩
     have hg:wh.grownBy (wh.setCell ⟨w.heap.size,m,none⟩ (.int .u64 sv)) (some w.heap.size):=Yd (p:=⟨w.heap.size,m,none⟩) (Lc wh _) (.inl rfl) _;replace k1:=k1.set_ m (.int .u64 sv);rw [wy.out] at k1;replace k2:=k2.grown hg (fun e=>by have:=Option.some.inj e;omega)
     replace aa:=aa.trans (Nh hg aa.size zR);clear hg f1 cm2;generalize wh.setCell _ _=Wf at k1 k2 aa |-;refine Uf rfl ?_;go_wp2
     go_roundw
     case rel=>exact ⟨m+1,by omega,by go_num,k1,k2,aa⟩
     case measure=>simp [intOf];omega
    ·obtain rfl:m=3:=by omega
     obtain ⟨q,hq⟩:=zEX (dm (Dj p r) t 3);have hqo:q.ok:=by rw [hq];exact HSO.out _ _ (HSL.out r)
     rw [<- hq] at k1 HT;clear hq;have Bd:Blk wr w.heap.size 237 #[.int .u64 q.a, .int .u64 q.b, .int .u64 q.c]:=k1;obtain ⟨z,hz⟩:=zEX (Lr p q);rw [<- hz] at HT;have ke:=zH (show ∀ w,Calls Tryz.prog 214 #[.int .u64 p, .agg #[.int .u64 q.a, .int .u64 q.b, .int .u64 q.c]] w fun e w'=>e= .returned (.agg #[.int .u64 z.a, .int .u64 z.b, .int .u64 z.c]) /\ Below w.heap.size w w' from fun w=>by rw [hz];exact HM.out q w hqo)
     clear hz k1 hqo;have c1:=Bd.cell;go_wp2_with fail
     refine (ke.out _).mono ?_;rintro e w5 ⟨rfl,Ma⟩;replace Bd:=Bd.below Ma Bd.lt;replace k2:=ea k2 Ma;replace aa:=ja aa Ma;clear Ma c1;have c1:=Bd.cell;have f1:=Bd.frozen;go_wp2_with fail
     have hg:=Ki (w:=w5) (g:=w.heap.size) (.int .u64 z.a) (.int .u64 z.b) (.int .u64 z.c);have kz:=Ji Bd (.int .u64 z.a) (.int .u64 z.b) (.int .u64 z.c);replace k2:=k2.grown hg (fun e=>by have:=Option.some.inj e;omega)
     replace aa:=aa.trans (Nh hg aa.size zR);clear hg c1 f1 Bd;generalize ((World.setCell w5 _ _).setCell _ _).setCell _ _=Wf at kz k2 aa |-
     go_roundw
     case rel=>exact ⟨r+1,by omega,by go_num,by rw [HT.out];exact kz,k2,aa⟩
     case measure=>simp [intOf];omega
  ·obtain rfl:r=8:=by omega
   obtain ⟨q,hq⟩:=zEX (Ii p s 8);rw [<- hq] at k1;have HQ:=zH hq;clear hq;have Bd:Blk wr w.heap.size 237 #[.int .u64 q.a, .int .u64 q.b, .int .u64 q.c]:=k1;have c1:=Bd.cell;have c2:=k2.cell;have f2:=k2.frozen;go_wp2_with fail
   have hg:=Ki (w:=wr) (g:=w.heap.size+1) (.int .u64 q.a) (.int .u64 q.b) (.int .u64 q.c);have kz:=Ji k2 (.int .u64 q.a) (.int .u64 q.b) (.int .u64 q.c);clear c1 c2 f2 k2;generalize ((World.setCell wr _ _).setCell _ _).setCell _ _=Wf at hg kz |-;have cz:=kz.cell;have hs:=aa.size;exact bodyPost_ret (v:=.agg #[.int .u64 q.a, .int .u64 q.b, .int .u64 q.c]) (by simp [results,Tryz.results163,go_sem,cz]) rfl ⟨by rw [<- HQ.out];rfl,aa.trans (Nh hg hs (by omega))⟩
def Yg (p:Nat):List Nat -> St -> St
 | [],s=>s
 | [x],s=>zj p ⟨(s.a+x)%p,s.b,s.c⟩
 | x :: y :: r,s=>Yg p r (zj p ⟨(s.a+x)%p,(s.b+y)%p,s.c⟩)
def Si (p label:Nat) (l:List Nat):St:=Yg p l ⟨0,0,(label*65536%p+l.length)%p⟩
theorem kD {l:List Nat} {i:Nat} (h:i+1<l.length):l.drop i=l.getD i 0 :: l.getD (i+1) 0 :: l.drop (i+2):=by
 rw [List.drop_eq_getElem_cons (by omega),List.drop_eq_getElem_cons h,List.getD_eq_getElem?_getD,List.getD_eq_getElem?_getD,List.getElem?_eq_getElem h,List.getElem?_eq_getElem (show i<l.length by omega)]
 rfl
theorem jD {l:List Nat} {i:Nat} (h:i+1=l.length):l.drop i=[l.getD i 0]:=by
 rw [List.drop_eq_getElem_cons (by omega),List.getD_eq_getElem?_getD,List.getElem?_eq_getElem (show i<l.length by omega),List.drop_of_length_le (by omega)]
 rfl
theorem XP (p label:Nat) (A:Option Addr) (n c:Nat) (l:List Nat) (w:World) (hp:Db p=true) (hl:RWd w [.slice A n c] l) (Ka:0<l.length) (hlen:l.length <= 1000000) :
  Calls Tryz.prog 199 #[.int .u64 p, .int .u64 label, .slice A n c] w fun e w'=>e= .returned (Si p label l).val /\ Below w.heap.size w w':=by
 obtain ⟨rfl,h1,h2,oa,za⟩:=zb hl;have gm:=uj h1 h2;have HMu:=zH (fun w=>Lo p label 65536 w hp)
 have Fu:=zH (fun w=>Wi p (label*65536%p) l.length w hp)
 have HA:=zH (fun a b w=>Wi p a b w hp)
 have HP:=zH (fun s w=>pQ p s w hp)
 have HF:=zH (show Si p label l=Yg p (l.drop 0) ⟨0,0,(label*65536%p+l.length)%p⟩ from rfl)
 have ew:IntKind.u64.wrap (l.length:Int)=(l.length:Int):=pg _ (by omega)
 generalize Si p label l=fin at *;generalize (label*65536%p+l.length)%p=c0 at *;generalize label*65536%p=m0 at *;unfold fv at *;clear hl h1 h2 hp;have d0:((l.length:Int) == 0)=false:=by rw [beq_eq_false_iff_ne];omega
 obtain ⟨kr,kf,aa,Ra⟩:=ah w 237 175 #[.int .u64 0, .int .u64 0, .int .u64 0] #[.int .u64 p];go_enter Tryz.func199,Tryz.ntmps199
 go_wp2_with fail
 generalize (w.alloc _).alloc _=w0 at kr kf aa Ra |-;have cf:=kf.cell;have lf:=kf.lt;refine xd (Bb) (pa) [9,10] [10] [0,1,2,3,4,5,6,7,8,9,10] (by kernel_rfl) (by kernel_rfl) ?_
 refine yd (pa) ?_;intro Wc da;refine Qb ?_;refine Jb (pa) rfl rfl rfl rfl (fun _ _ _ h=>h) (fun _=>by go_simp <;> rfl) (fun w' hR=>HMu.out _) ?_
 simp only [Act.put,zLa,zLb,zLc];refine Qb ?_;refine Jb (pa) rfl rfl rfl rfl (fun _ _ _ h=>h) (fun _=>by go_simp <;> rfl) (fun w' hR=>Fu.out _) ?_
 simp only [Act.put,zLa,zLb,zLc];refine Qb ?_;refine Hf rfl rfl rfl rfl ?_;intro wh xb;replace da:=(pa).trans _ _ _ da xb;go_simp;refine ⟨fun _=>(Below.refl _ _).alloc zR _,?_⟩
 replace kr:=kr.drew.below da kr.lt;replace kf:=kf.drew.below da kf.lt;replace aa:=ja aa.drew da;have hsw:w.heap.size+1<wh.heap.size:=kf.lt;have ia:=(Below.refl wh.heap.size wh).alloc zR (.cells #[.int .u64 0, .int .u64 0, .int .u64 0] 237);have ks:=Blk.new wh 237 #[.int .u64 0, .int .u64 0, .int .u64 0];replace kr:=ea kr ia;replace kf:=ea kf ia;replace aa:=ja aa ia;clear da ia cf lf Ra xb
 try simp only [Act.put,zLa,zLb,zLc]
 generalize wh.alloc _=w2 at kr kf aa ks |-;generalize wh.heap.size=g at ks hsw |-;have da:=pa.refl w2;refine Hf rfl rfl rfl rfl ?_;intro wh xb;replace da:=(pa).trans _ _ _ da xb;replace kr:=ea kr da;replace kf:=ea kf da;replace ks:=ea ks da;replace aa:=ja aa da;have c2:=ks.cell;have f2:=ks.frozen;go_simp;refine ⟨fun h=>Bool.noConfusion h,?_⟩
 have hg:=Ki (w:=wh) (g:=g) (.int .u64 0) (.int .u64 0) (.int .u64 c0);have kz:=Ji ks (.int .u64 0) (.int .u64 0) (.int .u64 c0);replace kr:=kr.grown hg (fun e=>by have:=Option.some.inj e;omega)
 replace kf:=kf.grown hg (fun e=>by have:=Option.some.inj e;omega)
 replace aa:=yc aa hg;clear c2 f2 ks hg da xb;generalize ((World.setCell wh _ _).setCell _ _).setCell _ _=w4 at kz kr kf aa |-;have ks:Blk w4 g 237 (St.mk 0 0 c0).cs:=kz;clear kz;refine Uf rfl ?_;go_wp2_with fail
 go_loopw [9] (fun y wr=>∃ (i:Nat) (q:St),i <= l.length+1 /\ y= .int .i64 i /\ Blk wr w.heap.size 237 #[.int .u64 0, .int .u64 0, .int .u64 0] /\ Blk wr (w.heap.size+1) 175 #[.int .u64 p] /\ Blk wr g 237 q.cs /\ Below w.heap.size w wr /\ Hid (Yg p (l.drop i) q=fin)) (fun y _=>l.length-(intOf y).toNat)
 case atStart=>exact ⟨0,⟨0,0,c0⟩,by omega,rfl,kr,kf,ks,aa,HF.out.symm⟩
 case round =>
  clear kr kf ks aa;obtain ⟨i,q,hi,rfl,kr,kf,ks,aa,HI⟩:=hrel;obtain ⟨qa,qb,qc⟩:=q;have Yh:Blk wr g 237 #[.int .u64 qa, .int .u64 qb, .int .u64 qc]:=ks;replace ks:=Yh;clear Yh;by_cases Di:i<l.length
  ·have hx:=yz oa Di
   obtain ⟨bb,bq,eA,Za,cl⟩:=Ye (za.below aa) Di;have Fb:=zH oa;have Ls:=zH za;have fl:=zH Di;have g1:(0:Int) <= (i:Int):=by omega
   have g2:(i:Int)<(l.length:Int):=by omega
   by_cases gd:i+1<l.length
   ·obtain ⟨bb2,bq2,Sm,Sj,Hg⟩:=Ye (za.below aa) gd
    have HD:=zH (kD gd);obtain ⟨i1,Kt⟩:=zEX (i+1);have e1:(i:Int)+1=(i1:Int):=by omega
    have e2:IntKind.i64.wrap ((i:Int)+1)=(i1:Int):=by rw [IntKind.wrap_i64];omega
    have e3:IntKind.i64.wrap (i1:Int)=(i1:Int):=by rw [IntKind.wrap_i64];omega
    have g4:(0:Int) <= (i1:Int):=by omega
    have g3:(i1:Int)<(l.length:Int):=by omega
    have Yp:=zH (show i1<l.length by omega)
    have py:=zH Kt;rw [eA] at Sm;have Bv:=Option.some.inj Sm
    injection Bv with e5 e6
    subst e5 e6;subst eA;clear Sm Sj;have Dg:=zH (show Yg p (l.getD i 0 :: l.getD (i+1) 0 :: l.drop (i+2)) ⟨qa,qb,qc⟩=fin by rw [<- HD.out];exact HI.out)
    clear HD oa za gd hx Kt;obtain ⟨y,hy⟩:=zEX (l.getD (i+1) 0);generalize l.getD i 0=x at *;rw [<- hy] at Dg Hg;have HY:=zH hy.symm;clear hy;have Zc:=zH (fun w=>HA.out qa x w)
    have Fs:=zH (fun w=>HA.out qb y w)
    obtain ⟨na,Qf⟩:=zEX ((qa+x)%p);obtain ⟨nb,Ml⟩:=zEX ((qb+y)%p);rw [<- Qf] at Zc;rw [<- Ml] at Fs;obtain ⟨z,hz⟩:=zEX (zj p ⟨na,nb,qc⟩);have HX:=zH (show ∀ w,Calls Tryz.prog 200 #[.int .u64 p, .agg #[.int .u64 na, .int .u64 nb, .int .u64 qc]] w fun e w'=>e= .returned (.agg #[.int .u64 z.a, .int .u64 z.b, .int .u64 z.c]) /\ Below w.heap.size w w' from fun w=>by rw [hz];exact HP.out ⟨na,nb,qc⟩ w)
    have HZ:=zH (show Yg p (l.drop (i+2)) z=fin by rw [hz];rw [Qf,Ml];exact Dg.out)
    clear hz;clear Dg Qf Ml;have cs:=ks.cell;have ls:=ks.lt;have cf:=kf.cell;have lf:=kf.lt;have cl2H:=zH Hg;clear Hg;go_wp2_with fail
    refine xd (Bb) (pa) [9] [9] [0,1,2,3,4,5,6,7,8,9] (by kernel_rfl) (by kernel_rfl) ?_
    refine yd (pa) ?_;intro Wc da;refine Qb ?_;refine Jb (pa) rfl rfl rfl rfl (fun _ _ _ h=>h) (fun _=>by go_simp <;> rfl) (fun w' hR=>Zc.out _) ?_
    simp only [Act.put,zLa,zLb,zLc];refine Qb ?_;refine Hf rfl rfl rfl rfl ?_;intro wh xb;replace da:=(pa).trans _ _ _ da xb;replace kr:=kr.drew.below da kr.lt;replace ks:=ks.drew.below da ks.lt;replace kf:=kf.drew.below da kf.lt;replace aa:=ja aa.drew da;clear cs cf lf ls da xb cl;have c2:=ks.cell;have f2:=ks.frozen;go_simp;refine ⟨fun h=>Bool.noConfusion h,?_⟩
    have hg:wh.grownBy (wh.setCell ⟨g,0,none⟩ (.int .u64 na)) (some g):=Yd (p:=⟨g,0,none⟩) (Lc wh _) (.inl rfl) _;replace ks:=ks.set_ 0 (.int .u64 na);simp at ks
    replace kr:=kr.grown hg (fun e=>by have:=Option.some.inj e;omega)
    replace kf:=kf.grown hg (fun e=>by have:=Option.some.inj e;omega)
    replace aa:=yc aa hg;clear hg c2 f2;generalize wh.setCell _ _=Mm at ks kr aa kf |-;refine Uf rfl ?_;have Hg:Mm.cell? ⟨bb,bq+i1,none⟩=some (.int .u64 y):=by obtain ⟨b3,q3,e3,-,h3⟩:=Ye (Ls.out.below aa) Yp.out;have e4:=Option.some.inj e3;injection e4 with e5 e6;subst e5 e6;rw [h3,py.out,HY.out]
    have Sj:bb<Mm.heap.size:=World.block_lt_of_cell? _ _ Hg;have cs:=ks.cell;have ls:=ks.lt;have cf:=kf.cell;have lf:=kf.lt;go_wp2_with fail
    refine xd (Bb) (pa) [10] [10] [0,1,2,3,4,5,6,7,8,9,10] (by kernel_rfl) (by kernel_rfl) ?_
    refine yd (pa) ?_;intro Wc da;refine Qb ?_;refine Jb (pa) rfl rfl rfl rfl (fun _ _ _ h=>h) (fun _=>by go_simp <;> rfl) (fun w' hR=>Fs.out _) ?_
    simp only [Act.put,zLa,zLb,zLc];refine Qb ?_;refine Hf rfl rfl rfl rfl ?_;intro wh xb;replace da:=(pa).trans _ _ _ da xb;replace kr:=kr.drew.below da kr.lt;replace ks:=ks.drew.below da ks.lt;replace kf:=kf.drew.below da kf.lt;replace aa:=ja aa.drew da;clear cs cf lf ls da xb Hg;have c2:=ks.cell;have f2:=ks.frozen;go_simp;refine ⟨fun h=>Bool.noConfusion h,?_⟩
    have hg:wh.grownBy (wh.setCell ⟨g,1,none⟩ (.int .u64 nb)) (some g):=Yd (p:=⟨g,1,none⟩) (Lc wh _) (.inl rfl) _;replace ks:=ks.set_ 1 (.int .u64 nb);simp at ks
    replace kr:=kr.grown hg (fun e=>by have:=Option.some.inj e;omega)
    replace kf:=kf.grown hg (fun e=>by have:=Option.some.inj e;omega)
    replace aa:=yc aa hg;clear hg c2 f2;generalize wh.setCell _ _=Wf1 at ks kr aa kf |-;refine Uf rfl ?_;have cs:=ks.cell;go_wp2_with fail
    refine (HX.out _).mono ?_;rintro e w5 ⟨rfl,Ma⟩;replace kr:=ea kr Ma;replace ks:=ea ks Ma;replace kf:=ea kf Ma;replace aa:=ja aa Ma;clear cs Ma;have cs:=ks.cell;have fs:=ks.frozen;go_wp2_with fail
    have hg:=Ki (w:=w5) (g:=g) (.int .u64 z.a) (.int .u64 z.b) (.int .u64 z.c);have kz:=Ji ks (.int .u64 z.a) (.int .u64 z.b) (.int .u64 z.c);replace kr:=kr.grown hg (fun e=>by have:=Option.some.inj e;omega)
    replace kf:=kf.grown hg (fun e=>by have:=Option.some.inj e;omega)
    replace aa:=yc aa hg;clear hg cs fs ks;generalize ((World.setCell w5 _ _).setCell _ _).setCell _ _=Wz at kz kr aa kf |-
    go_roundw
    case rel=>exact ⟨i+2,z,by omega,by go_num,kr,kf,kz,aa,HZ.out⟩
    case measure=>simp [intOf];omega
   ·have ij:i+1=l.length:=by omega
    have HD:=zH (jD ij);have g3:¬((i:Int)+1<(l.length:Int)):=by omega
    subst eA;have Dg:=zH (show Yg p [l.getD i 0] ⟨qa,qb,qc⟩=fin by rw [<- HD.out];exact HI.out)
    have ko:=zH (show l.drop (i+2)=[] from List.drop_of_length_le (by omega))
    clear HD oa za hx;generalize l.getD i 0=x at *;have Zc:=zH (fun w=>HA.out qa x w)
    obtain ⟨na,Qf⟩:=zEX ((qa+x)%p);rw [<- Qf] at Zc;obtain ⟨z,hz⟩:=zEX (zj p ⟨na,qb,qc⟩);have HX:=zH (show ∀ w,Calls Tryz.prog 200 #[.int .u64 p, .agg #[.int .u64 na, .int .u64 qb, .int .u64 qc]] w fun e w'=>e= .returned (.agg #[.int .u64 z.a, .int .u64 z.b, .int .u64 z.c]) /\ Below w.heap.size w w' from fun w=>by rw [hz];exact HP.out ⟨na,qb,qc⟩ w)
    have HZ:=zH (show Yg p (l.drop (i+2)) z=fin by rw [hz];rw [ko.out,Qf];exact Dg.out)
    clear hz;clear Dg ko gd ij Qf;have cs:=ks.cell;have ls:=ks.lt;have cf:=kf.cell;have lf:=kf.lt;go_wp2_with fail
    refine xd (Bb) (pa) [9] [9] [0,1,2,3,4,5,6,7,8,9] (by kernel_rfl) (by kernel_rfl) ?_
    refine yd (pa) ?_;intro Wc da;refine Qb ?_;refine Jb (pa) rfl rfl rfl rfl (fun _ _ _ h=>h) (fun _=>by go_simp <;> rfl) (fun w' hR=>Zc.out _) ?_
    simp only [Act.put,zLa,zLb,zLc];refine Qb ?_;refine Hf rfl rfl rfl rfl ?_;intro wh xb;replace da:=(pa).trans _ _ _ da xb;replace kr:=kr.drew.below da kr.lt;replace ks:=ks.drew.below da ks.lt;replace kf:=kf.drew.below da kf.lt;replace aa:=ja aa.drew da;clear cs cf lf ls da xb cl;have c2:=ks.cell;have f2:=ks.frozen;go_simp;refine ⟨fun h=>Bool.noConfusion h,?_⟩
    have hg:wh.grownBy (wh.setCell ⟨g,0,none⟩ (.int .u64 na)) (some g):=Yd (p:=⟨g,0,none⟩) (Lc wh _) (.inl rfl) _;replace ks:=ks.set_ 0 (.int .u64 na);simp at ks
    replace kr:=kr.grown hg (fun e=>by have:=Option.some.inj e;omega)
    replace kf:=kf.grown hg (fun e=>by have:=Option.some.inj e;omega)
    replace aa:=yc aa hg;clear hg c2 f2;generalize wh.setCell _ _=Mm at ks kr aa kf |-;refine Uf rfl ?_;have cs:=ks.cell;go_wp2_with fail
    refine (HX.out _).mono ?_;rintro e w5 ⟨rfl,Ma⟩;replace kr:=ea kr Ma;replace ks:=ea ks Ma;replace kf:=ea kf Ma;replace aa:=ja aa Ma;clear cs Ma;have cs:=ks.cell;have fs:=ks.frozen;go_wp2_with fail
    have hg:=Ki (w:=w5) (g:=g) (.int .u64 z.a) (.int .u64 z.b) (.int .u64 z.c);have kz:=Ji ks (.int .u64 z.a) (.int .u64 z.b) (.int .u64 z.c);replace kr:=kr.grown hg (fun e=>by have:=Option.some.inj e;omega)
    replace kf:=kf.grown hg (fun e=>by have:=Option.some.inj e;omega)
    replace aa:=yc aa hg;clear hg cs fs ks;generalize ((World.setCell w5 _ _).setCell _ _).setCell _ _=Wz at kz kr aa kf |-
    go_roundw
    case rel=>exact ⟨i+2,z,by omega,by go_num,kr,kf,kz,aa,HZ.out⟩
    case measure=>simp [intOf];omega
  ·have HQ:=zH (show (⟨qa,qb,qc⟩:St)=fin by have:=HI.out;rw [List.drop_of_length_le (by omega)] at this;exact this)
   have g2:¬((i:Int)<(l.length:Int)):=by omega
   have cs:=ks.cell;have cr:=kr.cell;have fr:=kr.frozen;clear za oa;go_wp2_with fail
   have hg:=Ki (w:=wr) (g:=w.heap.size) (.int .u64 qa) (.int .u64 qb) (.int .u64 qc);have kz:=Ji kr (.int .u64 qa) (.int .u64 qb) (.int .u64 qc);clear cs cr fr kr ks;generalize ((World.setCell wr _ _).setCell _ _).setCell _ _=Wz at hg kz |-;have cz:=kz.cell;exact bodyPost_ret (v:=.agg #[.int .u64 qa, .int .u64 qb, .int .u64 qc]) (by simp [results,Tryz.results199,go_sem,cz]) rfl ⟨by rw [<- HQ.out];rfl,aa.trans (Nh hg aa.size zR)⟩
def Rr (p:Nat) (s:St):Nat -> St
 | 0=>s
 | m+1=>zj p (Rr p s m)
def Wn (p:Nat) (s:St) (k:Nat):Nat:=(Rr p s (k / 2)).at_ (k%2)
theorem zF (f:Nat -> Nat) (n k:Nat):Fa n (Pe (fun i=>if i<k then f i else 0) k (f k))=Fa n fun i=>if i<k+1 then f i else 0:=by
 refine ui fun i _=>?_
 simp only [Pe];by_cases h:i=k
 ·subst h;rw [if_pos rfl,if_pos (by omega)]
 ·rw [if_neg h]
  by_cases h2:i<k
  ·rw [if_pos h2,if_pos (by omega)]
  ·rw [if_neg h2,if_neg (by omega)]
theorem nR (p label:Nat) (A:Option Addr) (n c:Nat) (l:List Nat) (w:World) (hp:Db p=true) (hl:RWd w [.slice A n c] l) (Ka:0<l.length) (hlen:l.length <= 1000000) :
  Calls Tryz.prog 162 #[.int .u64 p, .int .u64 label, .slice A n c] w fun e w'=>e= .returned (Si p label l).val /\ Below w.heap.size w w':=by
 obtain ⟨rfl,h1,h2,oa,za⟩:=zb hl;have gm:=uj h1 h2;have HMu:=zH (fun w=>PB p label 65536 w hp)
 have Fu:=zH (fun w=>Yx p (label*65536%p) l.length w hp)
 have HA:=zH (fun a b w=>Yx p a b w hp)
 have HP:=zH (fun s w=>SJ p s w hp)
 have HF:=zH (show Si p label l=Yg p (l.drop 0) ⟨0,0,(label*65536%p+l.length)%p⟩ from rfl)
 have ew:IntKind.u64.wrap (l.length:Int)=(l.length:Int):=pg _ (by omega)
 generalize Si p label l=fin at *;generalize (label*65536%p+l.length)%p=c0 at *;generalize label*65536%p=m0 at *;clear hl h1 h2 hp;have aa:Below w.heap.size w (w.alloc (.cells #[.int .u64 0, .int .u64 0, .int .u64 0] 237)):=(Below.refl _ _).alloc zR _;have kr:=Blk.new w 237 #[.int .u64 0, .int .u64 0, .int .u64 0];go_enter Tryz.func162,Tryz.ntmps162
 go_wp2_with fail
 generalize w.alloc _=w0 at kr aa |-;refine (HMu.out _).mono ?_;rintro e w1 ⟨rfl,ya⟩;replace kr:=ea kr ya;replace aa:=ja aa ya;go_wp2_with fail
 refine (Fu.out _).mono ?_;rintro e w2 ⟨rfl,xa⟩;replace kr:=ea kr xa;replace aa:=ja aa xa;have hsw:w.heap.size<w2.heap.size:=kr.lt;have ia:=(Below.refl w2.heap.size w2).alloc zR (.cells #[.int .u64 0, .int .u64 0, .int .u64 c0] 237);have ks:Blk _ w2.heap.size 237 (St.mk 0 0 c0).cs:=Blk.new w2 237 #[.int .u64 0, .int .u64 0, .int .u64 c0];replace kr:=ea kr ia;replace aa:=ja aa ia;clear ya xa ia
 go_upto_block 0 with fail
 generalize w2.alloc _=w4 at kr ks aa |-;generalize w2.heap.size=g at ks hsw |-;go_wp2_with fail
 go_loopw [8] (fun y wr=>∃ (i:Nat) (q:St),i <= l.length+1 /\ y= .int .i64 i /\ Blk wr w.heap.size 237 #[.int .u64 0, .int .u64 0, .int .u64 0] /\ Blk wr g 237 q.cs /\ Below w.heap.size w wr /\ Hid (Yg p (l.drop i) q=fin)) (fun y _=>l.length-(intOf y).toNat)
 case atStart=>exact ⟨0,⟨0,0,c0⟩,by omega,rfl,kr,ks,aa,HF.out.symm⟩
 case round =>
  clear kr ks aa;obtain ⟨i,q,hi,rfl,kr,ks,aa,HI⟩:=hrel;obtain ⟨qa,qb,qc⟩:=q;have Yh:Blk wr g 237 #[.int .u64 qa, .int .u64 qb, .int .u64 qc]:=ks;replace ks:=Yh;clear Yh;by_cases Di:i<l.length
  ·have hx:=yz oa Di
   obtain ⟨bb,bq,eA,Za,cl⟩:=Ye (za.below aa) Di;have Fb:=zH oa;have Ls:=zH za;have fl:=zH Di;have g1:(0:Int) <= (i:Int):=by omega
   have g2:(i:Int)<(l.length:Int):=by omega
   have hdi:((i:Int) == 0)=true \/ ((i:Int) == 0)=false:=by cases ((i:Int) == 0) <;> simp
   rcases hdi with di | di
   ·by_cases gd:i+1<l.length
    ·obtain ⟨bb2,bq2,Sm,Sj,Hg⟩:=Ye (za.below aa) gd
     have HD:=zH (kD gd);obtain ⟨i1,Kt⟩:=zEX (i+1);have e1:(i:Int)+1=(i1:Int):=by omega
     have e2:IntKind.i64.wrap ((i:Int)+1)=(i1:Int):=by rw [IntKind.wrap_i64];omega
     have e3:IntKind.i64.wrap (i1:Int)=(i1:Int):=by rw [IntKind.wrap_i64];omega
     have g4:(0:Int) <= (i1:Int):=by omega
     have g3:(i1:Int)<(l.length:Int):=by omega
     have Yp:=zH (show i1<l.length by omega)
     have py:=zH Kt;rw [eA] at Sm;have Bv:=Option.some.inj Sm
     injection Bv with e5 e6
     subst e5 e6;subst eA;clear Sm Sj;have Dg:=zH (show Yg p (l.getD i 0 :: l.getD (i+1) 0 :: l.drop (i+2)) ⟨qa,qb,qc⟩=fin by rw [<- HD.out];exact HI.out)
     clear HD oa za gd hx Kt;obtain ⟨y,hy⟩:=zEX (l.getD (i+1) 0);generalize l.getD i 0=x at *;rw [<- hy] at Dg Hg;have HY:=zH hy.symm;clear hy;have Zc:=zH (fun w=>HA.out qa x w)
     have Fs:=zH (fun w=>HA.out qb y w)
     obtain ⟨na,Qf⟩:=zEX ((qa+x)%p);obtain ⟨nb,Ml⟩:=zEX ((qb+y)%p);rw [<- Qf] at Zc;rw [<- Ml] at Fs;obtain ⟨z,hz⟩:=zEX (zj p ⟨na,nb,qc⟩);have HX:=zH (show ∀ w,Calls Tryz.prog 163 #[.int .u64 p, .agg #[.int .u64 na, .int .u64 nb, .int .u64 qc]] w fun e w'=>e= .returned (.agg #[.int .u64 z.a, .int .u64 z.b, .int .u64 z.c]) /\ Below w.heap.size w w' from fun w=>by rw [hz];exact HP.out ⟨na,nb,qc⟩ w)
     have HZ:=zH (show Yg p (l.drop (i+2)) z=fin by rw [hz];rw [Qf,Ml];exact Dg.out)
     clear hz;clear Dg Qf Ml;have cs:=ks.cell;have ls:=ks.lt;have cl2H:=zH Hg;clear Hg;go_wp2_with fail
     refine xd (Bb) (pa) [9] [9] [0,1,2,3,4,5,6,7,8,9] (by kernel_rfl) (by kernel_rfl) ?_
     refine yd (pa) ?_;intro Wc da;refine Qb ?_;refine Jb (pa) rfl rfl rfl rfl (fun _ _ _ h=>h) (fun _=>by go_simp <;> rfl) (fun w' hR=>Zc.out _) ?_
     simp only [Act.put,zLa,zLb,zLc];refine Qb ?_;refine Hf rfl rfl rfl rfl ?_;intro wh xb;replace da:=(pa).trans _ _ _ da xb;replace kr:=kr.drew.below da kr.lt;replace ks:=ks.drew.below da ks.lt;replace aa:=ja aa.drew da;clear cs ls da xb cl;have c2:=ks.cell;have f2:=ks.frozen;go_simp;refine ⟨fun h=>Bool.noConfusion h,?_⟩
     have hg:wh.grownBy (wh.setCell ⟨g,0,none⟩ (.int .u64 na)) (some g):=Yd (p:=⟨g,0,none⟩) (Lc wh _) (.inl rfl) _;replace ks:=ks.set_ 0 (.int .u64 na);simp at ks
     replace kr:=kr.grown hg (fun e=>by have:=Option.some.inj e;omega)
     replace aa:=yc aa hg;clear hg c2 f2;generalize wh.setCell _ _=Mm at ks kr aa |-;refine Uf rfl ?_;have Hg:Mm.cell? ⟨bb,bq+i1,none⟩=some (.int .u64 y):=by obtain ⟨b3,q3,e3,-,h3⟩:=Ye (Ls.out.below aa) Yp.out;have e4:=Option.some.inj e3;injection e4 with e5 e6;subst e5 e6;rw [h3,py.out,HY.out]
     have Sj:bb<Mm.heap.size:=World.block_lt_of_cell? _ _ Hg;have cs:=ks.cell;have ls:=ks.lt;go_wp2_with fail
     refine xd (Bb) (pa) [10] [10] [0,1,2,3,4,5,6,7,8,9,10] (by kernel_rfl) (by kernel_rfl) ?_
     refine yd (pa) ?_;intro Wc da;refine Qb ?_;refine Jb (pa) rfl rfl rfl rfl (fun _ _ _ h=>h) (fun _=>by go_simp <;> rfl) (fun w' hR=>Fs.out _) ?_
     simp only [Act.put,zLa,zLb,zLc];refine Qb ?_;refine Hf rfl rfl rfl rfl ?_;intro wh xb;replace da:=(pa).trans _ _ _ da xb;replace kr:=kr.drew.below da kr.lt;replace ks:=ks.drew.below da ks.lt;replace aa:=ja aa.drew da;clear cs ls da xb Hg;have c2:=ks.cell;have f2:=ks.frozen;go_simp;refine ⟨fun h=>Bool.noConfusion h,?_⟩
     have hg:wh.grownBy (wh.setCell ⟨g,1,none⟩ (.int .u64 nb)) (some g):=Yd (p:=⟨g,1,none⟩) (Lc wh _) (.inl rfl) _;replace ks:=ks.set_ 1 (.int .u64 nb);simp at ks
     replace kr:=kr.grown hg (fun e=>by have:=Option.some.inj e;omega)
     replace aa:=yc aa hg;clear hg c2 f2;generalize wh.setCell _ _=Wf1 at ks kr aa |-;refine Uf rfl ?_;have cs:=ks.cell;go_wp2_with fail
     refine (HX.out _).mono ?_;rintro e w5 ⟨rfl,Ma⟩;replace kr:=ea kr Ma;replace ks:=ea ks Ma;replace aa:=ja aa Ma;clear cs Ma;have cs:=ks.cell;have fs:=ks.frozen;go_wp2_with fail
     have hg:=Ki (w:=w5) (g:=g) (.int .u64 z.a) (.int .u64 z.b) (.int .u64 z.c);have kz:=Ji ks (.int .u64 z.a) (.int .u64 z.b) (.int .u64 z.c);replace kr:=kr.grown hg (fun e=>by have:=Option.some.inj e;omega)
     replace aa:=yc aa hg;clear hg cs fs ks;generalize ((World.setCell w5 _ _).setCell _ _).setCell _ _=Wz at kz kr aa |-
     go_roundw
     case rel=>exact ⟨i+2,z,by omega,by go_num,kr,kz,aa,HZ.out⟩
     case measure=>simp [intOf];omega
    ·have ij:i+1=l.length:=by omega
     have HD:=zH (jD ij);have g3:¬((i:Int)+1<(l.length:Int)):=by omega
     subst eA;have Dg:=zH (show Yg p [l.getD i 0] ⟨qa,qb,qc⟩=fin by rw [<- HD.out];exact HI.out)
     have ko:=zH (show l.drop (i+2)=[] from List.drop_of_length_le (by omega))
     clear HD oa za hx;generalize l.getD i 0=x at *;have Zc:=zH (fun w=>HA.out qa x w)
     obtain ⟨na,Qf⟩:=zEX ((qa+x)%p);rw [<- Qf] at Zc;obtain ⟨z,hz⟩:=zEX (zj p ⟨na,qb,qc⟩);have HX:=zH (show ∀ w,Calls Tryz.prog 163 #[.int .u64 p, .agg #[.int .u64 na, .int .u64 qb, .int .u64 qc]] w fun e w'=>e= .returned (.agg #[.int .u64 z.a, .int .u64 z.b, .int .u64 z.c]) /\ Below w.heap.size w w' from fun w=>by rw [hz];exact HP.out ⟨na,qb,qc⟩ w)
     have HZ:=zH (show Yg p (l.drop (i+2)) z=fin by rw [hz];rw [ko.out,Qf];exact Dg.out)
     clear hz;clear Dg ko gd ij Qf;have cs:=ks.cell;have ls:=ks.lt;go_wp2_with fail
     refine xd (Bb) (pa) [9] [9] [0,1,2,3,4,5,6,7,8,9] (by kernel_rfl) (by kernel_rfl) ?_
     refine yd (pa) ?_;intro Wc da;refine Qb ?_;refine Jb (pa) rfl rfl rfl rfl (fun _ _ _ h=>h) (fun _=>by go_simp <;> rfl) (fun w' hR=>Zc.out _) ?_
     simp only [Act.put,zLa,zLb,zLc];refine Qb ?_;refine Hf rfl rfl rfl rfl ?_;intro wh xb;replace da:=(pa).trans _ _ _ da xb;replace kr:=kr.drew.below da kr.lt;replace ks:=ks.drew.below da ks.lt;replace aa:=ja aa.drew da;clear cs ls da xb cl;have c2:=ks.cell;have f2:=ks.frozen;go_simp;refine ⟨fun h=>Bool.noConfusion h,?_⟩
     have hg:wh.grownBy (wh.setCell ⟨g,0,none⟩ (.int .u64 na)) (some g):=Yd (p:=⟨g,0,none⟩) (Lc wh _) (.inl rfl) _;replace ks:=ks.set_ 0 (.int .u64 na);simp at ks
     replace kr:=kr.grown hg (fun e=>by have:=Option.some.inj e;omega)
     replace aa:=yc aa hg;clear hg c2 f2;generalize wh.setCell _ _=Mm at ks kr aa |-;refine Uf rfl ?_;have cs:=ks.cell;go_wp2_with fail
     refine (HX.out _).mono ?_;rintro e w5 ⟨rfl,Ma⟩;replace kr:=ea kr Ma;replace ks:=ea ks Ma;replace aa:=ja aa Ma;clear cs Ma;have cs:=ks.cell;have fs:=ks.frozen;go_wp2_with fail
     have hg:=Ki (w:=w5) (g:=g) (.int .u64 z.a) (.int .u64 z.b) (.int .u64 z.c);have kz:=Ji ks (.int .u64 z.a) (.int .u64 z.b) (.int .u64 z.c);replace kr:=kr.grown hg (fun e=>by have:=Option.some.inj e;omega)
     replace aa:=yc aa hg;clear hg cs fs ks;generalize ((World.setCell w5 _ _).setCell _ _).setCell _ _=Wz at kz kr aa |-
     go_roundw
     case rel=>exact ⟨i+2,z,by omega,by go_num,kr,kz,aa,HZ.out⟩
     case measure=>simp [intOf];omega
   ·by_cases gd:i+1<l.length
    ·obtain ⟨bb2,bq2,Sm,Sj,Hg⟩:=Ye (za.below aa) gd
     have HD:=zH (kD gd);obtain ⟨i1,Kt⟩:=zEX (i+1);have e1:(i:Int)+1=(i1:Int):=by omega
     have e2:IntKind.i64.wrap ((i:Int)+1)=(i1:Int):=by rw [IntKind.wrap_i64];omega
     have e3:IntKind.i64.wrap (i1:Int)=(i1:Int):=by rw [IntKind.wrap_i64];omega
     have g4:(0:Int) <= (i1:Int):=by omega
     have g3:(i1:Int)<(l.length:Int):=by omega
     have Yp:=zH (show i1<l.length by omega)
     have py:=zH Kt;rw [eA] at Sm;have Bv:=Option.some.inj Sm
     injection Bv with e5 e6
     subst e5 e6;subst eA;clear Sm Sj;have Dg:=zH (show Yg p (l.getD i 0 :: l.getD (i+1) 0 :: l.drop (i+2)) ⟨qa,qb,qc⟩=fin by rw [<- HD.out];exact HI.out)
     clear HD oa za gd hx Kt;obtain ⟨y,hy⟩:=zEX (l.getD (i+1) 0);generalize l.getD i 0=x at *;rw [<- hy] at Dg Hg;have HY:=zH hy.symm;clear hy;have Zc:=zH (fun w=>HA.out qa x w)
     have Fs:=zH (fun w=>HA.out qb y w)
     obtain ⟨na,Qf⟩:=zEX ((qa+x)%p);obtain ⟨nb,Ml⟩:=zEX ((qb+y)%p);rw [<- Qf] at Zc;rw [<- Ml] at Fs;obtain ⟨z,hz⟩:=zEX (zj p ⟨na,nb,qc⟩);have HX:=zH (show ∀ w,Calls Tryz.prog 163 #[.int .u64 p, .agg #[.int .u64 na, .int .u64 nb, .int .u64 qc]] w fun e w'=>e= .returned (.agg #[.int .u64 z.a, .int .u64 z.b, .int .u64 z.c]) /\ Below w.heap.size w w' from fun w=>by rw [hz];exact HP.out ⟨na,nb,qc⟩ w)
     have HZ:=zH (show Yg p (l.drop (i+2)) z=fin by rw [hz];rw [Qf,Ml];exact Dg.out)
     clear hz;clear Dg Qf Ml;have cs:=ks.cell;have ls:=ks.lt;have cl2H:=zH Hg;clear Hg;go_wp2_with fail
     refine xd (Bb) (pa) [9] [9] [0,1,2,3,4,5,6,7,8,9] (by kernel_rfl) (by kernel_rfl) ?_
     refine yd (pa) ?_;intro Wc da;refine Qb ?_;refine Jb (pa) rfl rfl rfl rfl (fun _ _ _ h=>h) (fun _=>by go_simp <;> rfl) (fun w' hR=>Zc.out _) ?_
     simp only [Act.put,zLa,zLb,zLc];refine Qb ?_;refine Hf rfl rfl rfl rfl ?_;intro wh xb;replace da:=(pa).trans _ _ _ da xb;replace kr:=kr.drew.below da kr.lt;replace ks:=ks.drew.below da ks.lt;replace aa:=ja aa.drew da;clear cs ls da xb cl;have c2:=ks.cell;have f2:=ks.frozen;go_simp;refine ⟨fun h=>Bool.noConfusion h,?_⟩
     have hg:wh.grownBy (wh.setCell ⟨g,0,none⟩ (.int .u64 na)) (some g):=Yd (p:=⟨g,0,none⟩) (Lc wh _) (.inl rfl) _;replace ks:=ks.set_ 0 (.int .u64 na);simp at ks
     replace kr:=kr.grown hg (fun e=>by have:=Option.some.inj e;omega)
     replace aa:=yc aa hg;clear hg c2 f2;generalize wh.setCell _ _=Mm at ks kr aa |-;refine Uf rfl ?_;have Hg:Mm.cell? ⟨bb,bq+i1,none⟩=some (.int .u64 y):=by obtain ⟨b3,q3,e3,-,h3⟩:=Ye (Ls.out.below aa) Yp.out;have e4:=Option.some.inj e3;injection e4 with e5 e6;subst e5 e6;rw [h3,py.out,HY.out]
     have Sj:bb<Mm.heap.size:=World.block_lt_of_cell? _ _ Hg;have cs:=ks.cell;have ls:=ks.lt;go_wp2_with fail
     refine xd (Bb) (pa) [10] [10] [0,1,2,3,4,5,6,7,8,9,10] (by kernel_rfl) (by kernel_rfl) ?_
     refine yd (pa) ?_;intro Wc da;refine Qb ?_;refine Jb (pa) rfl rfl rfl rfl (fun _ _ _ h=>h) (fun _=>by go_simp <;> rfl) (fun w' hR=>Fs.out _) ?_
     simp only [Act.put,zLa,zLb,zLc];refine Qb ?_;refine Hf rfl rfl rfl rfl ?_;intro wh xb;replace da:=(pa).trans _ _ _ da xb;replace kr:=kr.drew.below da kr.lt;replace ks:=ks.drew.below da ks.lt;replace aa:=ja aa.drew da;clear cs ls da xb Hg;have c2:=ks.cell;have f2:=ks.frozen;go_simp;refine ⟨fun h=>Bool.noConfusion h,?_⟩
     have hg:wh.grownBy (wh.setCell ⟨g,1,none⟩ (.int .u64 nb)) (some g):=Yd (p:=⟨g,1,none⟩) (Lc wh _) (.inl rfl) _;replace ks:=ks.set_ 1 (.int .u64 nb);simp at ks
     replace kr:=kr.grown hg (fun e=>by have:=Option.some.inj e;omega)
     replace aa:=yc aa hg;clear hg c2 f2;generalize wh.setCell _ _=Wf1 at ks kr aa |-;refine Uf rfl ?_;have cs:=ks.cell;go_wp2_with fail
     refine (HX.out _).mono ?_;rintro e w5 ⟨rfl,Ma⟩;replace kr:=ea kr Ma;replace ks:=ea ks Ma;replace aa:=ja aa Ma;clear cs Ma;have cs:=ks.cell;have fs:=ks.frozen;go_wp2_with fail
     have hg:=Ki (w:=w5) (g:=g) (.int .u64 z.a) (.int .u64 z.b) (.int .u64 z.c);have kz:=Ji ks (.int .u64 z.a) (.int .u64 z.b) (.int .u64 z.c);replace kr:=kr.grown hg (fun e=>by have:=Option.some.inj e;omega)
     replace aa:=yc aa hg;clear hg cs fs ks;generalize ((World.setCell w5 _ _).setCell _ _).setCell _ _=Wz at kz kr aa |-
     go_roundw
     case rel=>exact ⟨i+2,z,by omega,by go_num,kr,kz,aa,HZ.out⟩
     case measure=>simp [intOf];omega
    ·have ij:i+1=l.length:=by omega
     have HD:=zH (jD ij);have g3:¬((i:Int)+1<(l.length:Int)):=by omega
     subst eA;have Dg:=zH (show Yg p [l.getD i 0] ⟨qa,qb,qc⟩=fin by rw [<- HD.out];exact HI.out)
     have ko:=zH (show l.drop (i+2)=[] from List.drop_of_length_le (by omega))
     clear HD oa za hx;generalize l.getD i 0=x at *;have Zc:=zH (fun w=>HA.out qa x w)
     obtain ⟨na,Qf⟩:=zEX ((qa+x)%p);rw [<- Qf] at Zc;obtain ⟨z,hz⟩:=zEX (zj p ⟨na,qb,qc⟩);have HX:=zH (show ∀ w,Calls Tryz.prog 163 #[.int .u64 p, .agg #[.int .u64 na, .int .u64 qb, .int .u64 qc]] w fun e w'=>e= .returned (.agg #[.int .u64 z.a, .int .u64 z.b, .int .u64 z.c]) /\ Below w.heap.size w w' from fun w=>by rw [hz];exact HP.out ⟨na,qb,qc⟩ w)
     have HZ:=zH (show Yg p (l.drop (i+2)) z=fin by rw [hz];rw [ko.out,Qf];exact Dg.out)
     clear hz;clear Dg ko gd ij Qf;have cs:=ks.cell;have ls:=ks.lt;go_wp2_with fail
     refine xd (Bb) (pa) [9] [9] [0,1,2,3,4,5,6,7,8,9] (by kernel_rfl) (by kernel_rfl) ?_
     refine yd (pa) ?_;intro Wc da;refine Qb ?_;refine Jb (pa) rfl rfl rfl rfl (fun _ _ _ h=>h) (fun _=>by go_simp <;> rfl) (fun w' hR=>Zc.out _) ?_
     simp only [Act.put,zLa,zLb,zLc];refine Qb ?_;refine Hf rfl rfl rfl rfl ?_;intro wh xb;replace da:=(pa).trans _ _ _ da xb;replace kr:=kr.drew.below da kr.lt;replace ks:=ks.drew.below da ks.lt;replace aa:=ja aa.drew da;clear cs ls da xb cl;have c2:=ks.cell;have f2:=ks.frozen;go_simp;refine ⟨fun h=>Bool.noConfusion h,?_⟩
     have hg:wh.grownBy (wh.setCell ⟨g,0,none⟩ (.int .u64 na)) (some g):=Yd (p:=⟨g,0,none⟩) (Lc wh _) (.inl rfl) _;replace ks:=ks.set_ 0 (.int .u64 na);simp at ks
     replace kr:=kr.grown hg (fun e=>by have:=Option.some.inj e;omega)
     replace aa:=yc aa hg;clear hg c2 f2;generalize wh.setCell _ _=Mm at ks kr aa |-;refine Uf rfl ?_;have cs:=ks.cell;go_wp2_with fail
     refine (HX.out _).mono ?_;rintro e w5 ⟨rfl,Ma⟩;replace kr:=ea kr Ma;replace ks:=ea ks Ma;replace aa:=ja aa Ma;clear cs Ma;have cs:=ks.cell;have fs:=ks.frozen;go_wp2_with fail
     have hg:=Ki (w:=w5) (g:=g) (.int .u64 z.a) (.int .u64 z.b) (.int .u64 z.c);have kz:=Ji ks (.int .u64 z.a) (.int .u64 z.b) (.int .u64 z.c);replace kr:=kr.grown hg (fun e=>by have:=Option.some.inj e;omega)
     replace aa:=yc aa hg;clear hg cs fs ks;generalize ((World.setCell w5 _ _).setCell _ _).setCell _ _=Wz at kz kr aa |-
     go_roundw
     case rel=>exact ⟨i+2,z,by omega,by go_num,kr,kz,aa,HZ.out⟩
     case measure=>simp [intOf];omega
  ·have HQ:=zH (show (⟨qa,qb,qc⟩:St)=fin by have:=HI.out;rw [List.drop_of_length_le (by omega)] at this;exact this)
   have g2:¬((i:Int)<(l.length:Int)):=by omega
   have gi:((i:Int) == 0)=false:=by rw [beq_eq_false_iff_ne];omega
   have cs:=ks.cell;have cr:=kr.cell;have fr:=kr.frozen;clear za oa;go_wp2_with fail
   have hg:=Ki (w:=wr) (g:=w.heap.size) (.int .u64 qa) (.int .u64 qb) (.int .u64 qc);have kz:=Ji kr (.int .u64 qa) (.int .u64 qb) (.int .u64 qc);clear cs cr fr kr ks;generalize ((World.setCell wr _ _).setCell _ _).setCell _ _=Wz at hg kz |-;have cz:=kz.cell;exact bodyPost_ret (v:=.agg #[.int .u64 qa, .int .u64 qb, .int .u64 qc]) (by simp [results,Tryz.results162,go_sem,cz]) rfl ⟨by rw [<- HQ.out];rfl,aa.trans (Nh hg aa.size zR)⟩
theorem Ze {w w':World} {base B:Nat} {e:TypeId} {size:Nat} {v:Value} {n:Nat} {xs:List Value} (h:w.ownsRow base e size v n xs) (hg:w.grownBy w' (some B)) (hB:B<base):w'.ownsRow base e size v n xs:=by
 obtain ⟨h1,h2⟩:=h;refine ⟨h1,?_⟩;rcases h2 with h2 | ⟨g,cap,cur,hv,Kg,hh,r⟩
 ·exact Or.inl h2
 ·exact Or.inr ⟨g,cap,cur,hv,Kg,by rw [hg.block g (Array.getElem?_eq_some_iff.1 hh).1 (fun e=>by have:=Option.some.inj e;omega)];exact hh,r⟩
theorem iF (f:Nat -> Nat) (i:Nat):(List.range i).map f++[f i]=(List.range (i+1)).map f:=by simp [List.range_succ]
theorem ER (p label:Nat) (A:Option Addr) (n c m:Nat) (l:List Nat) (w:World) (hp:Db p=true) (hl:RWd w [.slice A n c] l) (Ka:0<l.length) (hlen:l.length <= 1000000) (hm:m <= 65536) :
  Calls Tryz.prog 88 #[.int .u64 p, .int .u64 label, .slice A n c, .int .i64 m] w fun e w'=>∃ v,e= .returned v /\ w'.ownsRow w.heap.size 22 1 v m (Ca ((List.range m).map (Wn p (Si p label l)))) /\ Below w.heap.size w w':=by
 obtain ⟨Pd,Lb⟩:=nc hp;have HV:=zH (fun w=>by have:=Tk p w Lb;rw [hp] at this;exact this)
 have Hs:=zH (fun w' (hb:Below w.heap.size w w')=>nR p label A n c l w' hp (ib hb hl) Ka hlen)
 have HP:=zH (fun s w=>SJ p s w hp)
 have g0:¬((m:Int)<0):=by omega
 have g1:(m:Int) <= 65536:=by omega
 clear hl Ka hlen hp Pd Lb;generalize Si p label l=s at *;go_enter Tryz.func88,Tryz.ntmps88
 go_wp2_with fail
 refine (HV.out _).mono ?_;rintro e w1 ⟨rfl,ya⟩;go_wp2_with fail
 refine (Hs.out _ ya).mono ?_;rintro e w2 ⟨rfl,xa⟩;have aa:=ja ya xa;have ev:s.val= .agg #[.int .u64 s.a, .int .u64 s.b, .int .u64 s.c]:=rfl;rw [ev];have ia:=(Below.refl w2.heap.size w2).alloc zR (.cells #[.int .u64 s.a, .int .u64 s.b, .int .u64 s.c] 237);have ks0:=Blk.new w2 237 #[.int .u64 s.a, .int .u64 s.b, .int .u64 s.c];have Df:=aa.size;replace aa:=ja aa ia;clear ev ya xa ia;go_upto_region 4 with fail
 generalize w2.alloc _=w3 at ks0 aa |-;generalize w2.heap.size=gs at *;have ks:Blk w3 gs 237 (Rr p s (0 / 2)).cs:=ks0;clear ks0;have hgs:gs<w3.heap.size:=ks.lt;go_wp2_with fail
 go_loopw [10,11] (fun v y wr=>∃ i:Nat,i <= m /\ y= .int .i64 i /\ Blk wr gs 237 (Rr p s (i / 2)).cs /\ wr.ownsRow w3.heap.size 22 1 v i (Ca ((List.range i).map (Wn p s))) /\ Below w.heap.size w wr /\ w3.heap.size <= wr.heap.size) (fun _ y _=>m-(intOf y).toNat)
 case atStart=>exact ⟨0,Nat.zero_le _,rfl,ks,⟨rfl, .inl ⟨rfl,rfl⟩⟩,aa,zR⟩
 case round =>
  clear ks aa;obtain ⟨i,hi,rfl,ks,ma,aa,Ra⟩:=hrel;by_cases oa:i<m
  ·have g2:(i:Int)<(m:Int):=by omega
   have g3:(0:Int) <= (i:Int):=by omega
   obtain ⟨sv,hsv⟩:=zEX (Wn p s i);obtain ⟨j,hj⟩:=zEX (i%2);have Vj:j<3:=by omega
   have ej:(i:Int)%2=(j:Int):=by omega
   have ej2:(i:Int).tmod 2=(j:Int):=by rw [Int.tmod_eq_emod_of_nonneg (by omega)];exact ej
   have HSQ:=zH (show (Rr p s (i / 2)).at_ j=sv by rw [hj,hsv];rfl)
   have Ns:=zH (show (List.range i).map (Wn p s)++[sv]=(List.range (i+1)).map (Wn p s) by rw [hsv];exact iF _ _)
   have cj:=ks.cell j;rw [St.cs_at _ Vj,HSQ.out] at cj;obtain ⟨q,hq⟩:=zEX (Rr p s (i / 2));rw [<- hq] at ks;have HQ:=zH hq.symm;have HJ:=zH hj;clear hsv hq hj;go_wp2_with (at_builtin;refine If rfl _ _ rfl Vi rfl (ma.alloc _) rfl (Uk _ _ _) (yg [sv]) (by omega) (by simp;omega) ?_)
   intro v' wn Ta Ha Ab;have ia:=(Below.refl wr.heap.size wr).alloc zR (.cells #[.int .u64 sv] 22);have hB:=mh (ma.alloc _) Ha (by simp;omega)
   have hks:=(ea ks ia).below hB hgs;replace aa:=(Om aa ia aa.size).trans (hB.mono (by have:=aa.size;omega))
   have hszn:w3.heap.size <= wn.heap.size:=by have:=Ha.size;simp at this;omega
   replace Ta:wn.ownsRow w3.heap.size 22 1 v' (i+1) (Ca ((List.range (i+1)).map (Wn p s))):=Kr (a:=(List.range i).map (Wn p s)) (b:=[sv]) Ta Ns.out;clear ma Ha Ab ia hB ks cj Ra;rcases (show j=0 \/ j=1 by have:=HJ.out;omega) with h0 | h1
   ·have d3:((j:Int) == 1)=false:=by rw [beq_eq_false_iff_ne];omega
    have HH:=zH (show i / 2=(i+1) / 2 by have:=HJ.out;omega)
    rw [<- HQ.out,HH.out] at hks;clear h0;go_wp2
    go_roundw
    case rel=>exact ⟨i+1,by omega,by go_num,hks,Ta,aa,hszn⟩
    case measure=>simp [intOf];omega
   ·have d3:((j:Int) == 1)=true:=by rw [beq_iff_eq];omega
    have HH:=zH (show (i+1) / 2=i / 2+1 by have:=HJ.out;omega)
    obtain ⟨z,hz⟩:=zEX (zj p q);have HZ:=zH (show Rr p s ((i+1) / 2)=z by rw [HH.out,Rr,HQ.out,hz])
    have HX:=zH (show ∀ w,Calls Tryz.prog 163 #[.int .u64 p, .agg #[.int .u64 q.a, .int .u64 q.b, .int .u64 q.c]] w fun e w'=>e= .returned (.agg #[.int .u64 z.a, .int .u64 z.b, .int .u64 z.c]) /\ Below w.heap.size w w' from fun w=>by rw [hz];exact HP.out q w)
    have Yh:Blk wn gs 237 #[.int .u64 q.a, .int .u64 q.b, .int .u64 q.c]:=hks;clear h1 hz hks;have cs:=Yh.cell;go_wp2_with fail
    refine (HX.out _).mono ?_;rintro e w5 ⟨rfl,Ma⟩;replace Yh:=ea Yh Ma;replace Ta:=db Ta Ma zR;replace aa:=ja aa Ma;have hs5:=Ma.size;clear cs Ma;have cs:=Yh.cell;have fs:=Yh.frozen;go_wp2_with fail
    have hg:=Ki (w:=w5) (g:=gs) (.int .u64 z.a) (.int .u64 z.b) (.int .u64 z.c);have ks:Blk _ gs 237 z.cs:=Ji Yh (.int .u64 z.a) (.int .u64 z.b) (.int .u64 z.c);replace Ta:=Ze Ta hg hgs;replace aa:=yc aa hg;have hs6:=hg.size;clear hg cs fs Yh
    go_roundw
    case rel=>exact ⟨i+1,by omega,by go_num,by rw [HZ.out];exact ks,Ta,aa,by omega⟩
    case measure=>simp [intOf];omega
  ·obtain rfl:i=m:=by omega
   go_wp2;go_ret
   exact ⟨_,rfl,mg ma (by omega),aa⟩
abbrev xm:=(Nat -> Value) -> (Nat -> Prop) -> World -> Prop
structure yh where
 i:Nat
 deps:List Nat
 eat:List Nat
def dc (l:List Oper) (j:Nat):Option Tmp:=(l[j]?).bind (·.dst)
def vd (l:List Oper) (vs:Nat -> Value) (a:Act) (js:List Nat):Act:=js.foldl (fun a j=>a.put (dc l j) (vs j)) a
def Mw:List (Nat × xm) -> Nat -> xm
 | [],_=>fun _ _ _=>True
 | (k,p) :: r,j=>if Nat.beq k j then p else Mw r j
theorem ZE (l:List Oper) (vs:Nat -> Value) (d:Option Tmp) (v:Value):∀ (js:List Nat) (a:Act),(∀ j∈js,∀ t,d=some t -> dc l j≠some t) -> vd l vs (a.put d v) js=(vd l vs a js).put d v
 | [],_,_=>rfl
 | j :: js,a,h=>by
  show vd l vs ((a.put d v).put (dc l j) (vs j)) js=_
  rw [Act.put_comm a v (vs j) (h j (by simp))]
  exact ZE l vs d v js _ fun k hk=>h k (by simp [hk])
theorem QJ (l:List Oper) {vs us:Nat -> Value}:∀ (js:List Nat) (a:Act),(∀ j∈js,vs j=us j) -> vd l vs a js=vd l us a js
 | [],_,_=>rfl
 | j :: js,a,h=>by
  show vd l vs (a.put (dc l j) (vs j)) js=vd l us (a.put (dc l j) (us j)) js
  rw [h j (by simp)]
  exact QJ l js _ fun k hk=>h k (by simp [hk])
def Jh (vs:Nat -> Value) (i:Nat) (v:Value):Nat -> Value:=fun j=>if j=i then v else vs j
theorem JK (vs:Nat -> Value) (i:Nat) (v:Value):Jh vs i v i=v:=if_pos rfl
theorem IF {vs:Nat -> Value} {i j:Nat} {v:Value} (h:j≠i):Jh vs i v j=vs j:=if_neg h
theorem bF (l:List Oper) (vs:Nat -> Value) (i:Nat) (v:Value) (f f':Nat -> Bool):∀ (js:List Nat) (a:Act),js.Nodup -> i∈js -> f i=false -> f' i=true -> (∀ j∈js,j≠i -> f' j=f j) ->
  (∀ j∈js,j≠i -> ∀ t,dc l i=some t -> dc l j≠some t) -> vd l (Jh vs i v) a (js.filter f')=(vd l vs a (js.filter f)).put (dc l i) v
 | [],_,_,h,_,_,_,_=>by cases h
 | j :: js,a,hn,hi,h0,h1,h2,h3=>by
  obtain ⟨hj,hn'⟩:=List.nodup_cons.1 hn;by_cases e:j=i
  ·subst e
   have hf:js.filter f'=js.filter f:=List.filter_congr fun k hk=>h2 k (by simp [hk]) (by rintro rfl;exact hj hk)
   rw [List.filter_cons_of_pos h1,List.filter_cons_of_neg (by rw [h0];exact Bool.false_ne_true),hf]
   show vd l (Jh vs j v) (a.put (dc l j) (Jh vs j v j)) _=_
   rw [JK,ZE _ _ _ _ _ _ (fun k hk=>h3 k (by simp [(List.mem_filter.1 hk).1]) (by rintro rfl;exact hj (List.mem_filter.1 hk).1))]
   rw [QJ l _ a fun k hk=>IF (by rintro rfl;exact hj (List.mem_filter.1 hk).1)]
  ·have Jt:i∈js:=by
    rcases List.mem_cons.1 hi with h | h
    ·exact absurd h.symm e
    ·exact h
   have key:=fun a=>bF l vs i v f f' js a hn' Jt h0 h1 (fun k hk=>h2 k (by simp [hk])) fun k hk=>h3 k (by simp [hk])
   have e2:=h2 j (by simp) e
   cases hfj:f j
   ·rw [List.filter_cons_of_neg (by rw [e2,hfj];exact Bool.false_ne_true),List.filter_cons_of_neg (by rw [hfj];exact Bool.false_ne_true)]
    exact key a
   ·rw [List.filter_cons_of_pos (by rw [e2,hfj]),List.filter_cons_of_pos hfj]
    show vd l (Jh vs i v) (a.put (dc l j) (Jh vs i v j)) _=(vd l vs (a.put (dc l j) (vs j)) _).put _ _
    rw [IF e];exact key _
theorem LB (l:List Oper) (vs:Nat -> Value) (t:Tmp):∀ (js:List Nat) (a:Act),(∀ j∈js,dc l j≠some t) -> (vd l vs a js).eval (.tmp t)=a.eval (.tmp t)
 | [],_,_=>rfl
 | j :: js,a,h=>by
  show (vd l vs (a.put (dc l j) (vs j)) js).eval _=_
  rw [LB l vs t js _ fun k hk=>h k (by simp [hk])]
  exact Act.eval_put fun d hd he=>h j (by simp) (by rw [hd];injection he with he;rw [he])
theorem aF (l:List Oper) (vs:Nat -> Value) (t:Tmp) (j:Nat) (hd:dc l j=some t):∀ (js:List Nat) (a:Act),j∈js -> (∀ k∈js,k≠j -> dc l k≠some t) -> (vd l vs a js).eval (.tmp t)=if t<a.tmps.size then vs j else undef
 | [],_,h,_=>by cases h
 | k :: js,a,h,Ka=>by
  show (vd l vs (a.put (dc l k) (vs k)) js).eval _=_
  by_cases hj:j∈js
  ·rw [aF l vs t j hd js _ hj fun m hm=>Ka m (by simp [hm])]
   have e:(a.put (dc l k) (vs k)).tmps.size=a.tmps.size:=by cases h:dc l k <;> simp [Act.put]
   rw [e]
  ·obtain rfl:j=k:=by
    rcases List.mem_cons.1 h with h | h
    ·exact h
    ·exact absurd h hj
   rw [LB l vs t js _ fun m hm=>Ka m (by simp [hm]) fun e=>hj (e ▸ hm),hd]
   by_cases ht:t<a.tmps.size <;> simp [Act.eval,Act.put,ht]
def Oi (B:Nat) (X:Nat -> Prop) (w w':World):Prop:=w'.os=w.os /\ w'.tape=w.tape /\ w'.output=w.output /\ w.heap.size <= w'.heap.size /\ ∀ b,b<B -> ¬X b -> w'.heap[b]?=w.heap[b]?
theorem zM {B:Nat} {X:Nat -> Prop} {a b c:World} (h:Oi B X a b) (k:Oi B X b c):Oi B X a c :=
 ⟨k.1.trans h.1,k.2.1.trans h.2.1,k.2.2.1.trans h.2.2.1,Nat.le_trans h.2.2.2.1 k.2.2.2.1,fun g h1 h2=>(k.2.2.2.2 g h1 h2).trans (h.2.2.2.2 g h1 h2)⟩
theorem yM (B:Nat) (X:Nat -> Prop) (w:World):Oi B X w w:=⟨rfl,rfl,rfl,zR,fun _ _ _=>rfl⟩
def yl (B:Nat) (X:Nat -> Prop) (own:Nat -> Nat) (w:World) (i:Nat):Nat -> Prop:=fun b=>b<w.heap.size /\ (B <= b \/ X b) /\ own b=i
def um (P:Program) (x:Sem Next) (w:World) (K:Value -> World -> Prop):Prop :=
 (∃ v w',x.run P w= .ok (.value v) w' /\ K v w') \/ (∃ w',x.run P w= .ok .skip w' /\ K undef w') \/ (∃ f vals,x.run P w= .ok (.enter f vals) w /\ Calls P f vals w fun e w'=>∃ v,e= .returned v /\ K v w')
theorem qM {P:Program} {o:Oper} {a:Act} {w:World} {K:Act -> World -> Prop} {Q:Exit -> Act -> World -> Prop} (h:um P (execOp a.eval o) w fun v w'=>K (a.put o.dst v) w'):o.wp P a w K Q:=by
 unfold Oper.wp;rcases h with ⟨v,w',h1,h2⟩ | ⟨w',h1,h2⟩ | ⟨f,vals,h1,h2⟩
 ·rw [h1];exact h2
 ·rw [h1];exact h2
 ·rw [h1]
  refine Calls.mono h2 ?_;rintro e w' ⟨v,rfl,h3⟩;exact h3
theorem iD {P:Program} {x:Sem Next} {w w':World} {K:Value -> World -> Prop} {v:Value} (h:x.run P w= .ok (.value v) w') (hK:K v w'):um P x w K:=.inl ⟨v,w',h,hK⟩
def zq (l:List Oper) (i j:Nat):Bool:=match l[i]? with | some o=>(o.after.any fun e=>Region.binds .any e&&e.on == j) | none=>false
def AB (l:List Oper) (i:Nat):List Tmp:=match l[i]? with | some o=>(o.op.operands.toList.filterMap fun | .tmp t=>some t | _=>none) | none=>[]
def Iw (l:List Oper) (L0:Array Bool):List Nat -> List Nat -> Bool
 | _,[]=>true
 | pre,i :: rest=>(match l[i]? with | some o=>o.guard.isNone&&!L0.getD i true&&o.after.all (fun e=>!Region.binds .any e||L0.getD e.on false||(pre.contains e.on&&decide (e.on<l.length))) | none=>true)&&Iw l L0 (i :: pre) rest
def zB (l:List Oper) (T:List yh) (L0:Array Bool):Bool :=
 L0.size == l.length&&(T.map (·.i)).Nodup&&Iw l L0 [] (T.map (·.i)) &&
 (T.all fun s=>T.all fun t=>s.i == t.i||(dc l s.i).isNone||dc l s.i != dc l t.i) &&
 (T.all fun s=>(AB l s.i).all fun x=>T.all fun t=>dc l t.i != some x||s.deps.contains t.i) &&
 (T.all fun s=>s.deps.all fun j=>(T.any fun t=>t.i == j)&&(decide (l.length <= j)||zq l s.i j)) &&
 (T.all fun s=>s.eat.all fun j=>s.deps.contains j&&T.all fun t=>t.i == s.i||!t.deps.contains j) &&
 ((List.range l.length).all fun i=>L0.getD i true||(T.any fun t=>t.i == i)||((T.all fun t=>decide (l.length <= t.i)||zq l i t.i)||(List.range l.length).any fun j=>!L0.getD j true&&!(T.any fun t=>t.i == j)&&zq l i j))
def oA (P:Program) (l:List Oper) (p:Nat -> xm) (B:Nat) (X:Nat -> Prop) (w0:World) (a0:Act) (s:yh):Prop :=
 ∀ (o:Oper),l[s.i]?=some o -> ∀ (w:World) (vs:Nat -> Value) (F:Nat -> Nat -> Prop),Oi B X w0 w -> (∀ j∈s.deps,p j vs (F j) w /\ ∀ b,F j b -> b<w.heap.size /\ (B <= b \/ X b)) -> (∀ j k b,j≠k -> F j b -> ¬F k b) ->
  um P (execOp (vd l vs a0 (s.deps.filter (·<l.length))).eval o) w fun v w'=>Oi B X w w' /\ (∀ b,b<w.heap.size -> (∀ j∈s.eat,¬F j b) -> w'.heap[b]?=w.heap[b]?) /\ p s.i (Jh vs s.i v) (fun b=>(w.heap.size <= b /\ b<w'.heap.size) \/ ∃ j∈s.eat,F j b) w'
def tx (p:Nat -> xm) (B:Nat) (X:Nat -> Prop) (w0:World) (s:yh):Prop :=
 ∀ (vs us:Nat -> Value) (F:Nat -> Prop) (w w':World),Oi B X w0 w -> Oi B X w w' -> (∀ m∈s.i :: s.deps,us m=vs m) -> (∀ b,F b -> b<w.heap.size) -> (∀ b,F b -> w'.heap[b]?=w.heap[b]?) -> p s.i vs F w -> p s.i us F w'
section
variable {P:Program} {l:List Oper} {Q:Exit -> Act -> World -> Prop} {R:World -> World -> Prop} {T:List yh} {p:Nat -> xm} {B:Nat} {X:Nat -> Prop} {w0:World} {a0:Act} {L0:Array Bool}
structure jA (l:List Oper) (T:List yh) (p:Nat -> xm) (B:Nat) (X:Nat -> Prop) (w0:World) (a0:Act) (L0 L:Array Bool) (vs:Nat -> Value) (own:Nat -> Nat) (a:Act) (w:World):Prop where
 size:L.size=l.length
 old:∀ i:Nat,L0.getD i true=true -> L.getD i true=true
 new:∀ i:Nat,L.getD i true=true -> L0.getD i true=true \/ ∃ t∈T,t.i=i
 eff:Oi B X w0 w
 act:a=vd l vs a0 ((T.map (·.i)).filter fun j=>L.getD j true&&!L0.getD j true)
 facts:∀ s∈T,L.getD s.i true=true -> (∀ k∈T,s.i∈k.eat -> L.getD k.i true=false) -> p s.i vs (yl B X own w s.i) w
theorem iH {i j:Nat} (h:zq l i j=true):∃ o,l[i]?=some o /\ ∃ e∈o.after,Region.binds .any e=true /\ e.on=j:=by
 unfold zq at h;split at h
 ·rename_i o ho
  simp only [Array.any_eq_true] at h;obtain ⟨k,hk,he⟩:=h;simp only [Bool.and_eq_true,beq_iff_eq] at he;exact ⟨o,ho,o.after[k],Array.getElem_mem hk,he.1,he.2⟩
 ·cases h
theorem Jw:∀ (js pre:List Nat),Iw l L0 pre js=true -> ∀ i∈js,∀ o,l[i]?=some o -> o.guard=none /\ L0.getD i true=false
 | [],_,_,i,hi,_,_=>by cases hi
 | j :: js,pre,h,i,hi,o,ho=>by
  unfold Iw at h;rw [Bool.and_eq_true] at h;rcases List.mem_cons.1 hi with rfl | hi
  ·have h1:=h.1
   rw [ho] at h1;simp only [Bool.and_eq_true,Bool.not_eq_true',Option.isNone_iff_eq_none] at h1;exact ⟨h1.1.1,h1.1.2⟩
  ·exact Jw js _ h.2 i hi o ho
theorem jJ {L:Array Bool} (hs:L.size=l.length) (h0:∀ i:Nat,L0.getD i true=true -> L.getD i true=true) (Ra:L0.size=l.length):∀ (js pre:List Nat),Iw l L0 pre js=true -> (∀ i∈pre,L.getD i true=true) -> (∃ i∈js,L.getD i true=false) -> ∃ i∈js,i∈Region.ready .any l.toArray L
 | [],_,_,_,⟨i,hi,_⟩=>by cases hi
 | j :: js,pre,h,hp,hx=>by
  unfold Iw at h;rw [Bool.and_eq_true] at h;cases hj:L.getD j true
  ·refine ⟨j,by simp,?_⟩
   have oa:j<l.length:=by
    rcases Nat.lt_or_ge j l.length with h | h
    ·exact h
    ·rw [<- hs] at h
     simp [Nat.not_lt.2 h] at hj
   have ho:l[j]?=some l[j]:=List.getElem?_eq_getElem oa;have h1:=h.1;rw [ho] at h1;simp only [Bool.and_eq_true] at h1;have h2:=h1.2;rw [Array.all_eq_true] at h2;refine mem_ready.2 ⟨hj,l[j],by rw [List.getElem?_toArray];exact ho,fun e he hb=>?_⟩
   obtain ⟨k,hk,rfl⟩:=Array.getElem_of_mem he;have h3:=h2 k hk;rw [hb] at h3;simp only [Bool.not_true,Bool.false_or,Bool.or_eq_true] at h3;have key:∀ n:Nat,n<l.length -> L.getD n true=true -> L.getD n false=true:=fun n hn h=>by
    rw [<- hs] at hn
    simpa [hn] using h
   rcases h3 with h3 | h3
   ·have hn:l.toArray[j].after[k].on<l.length:=by
     rcases Nat.lt_or_ge (l[j].after[k].on) l.length with h | h
     ·exact h
     ·rw [<- Ra] at h
      have h3':L0.getD (l[j].after[k].on) false=true:=h3;simp [Nat.not_lt.2 h] at h3'
    refine key _ hn (h0 _ ?_);rw [<- Ra] at hn;have h3':L0.getD (l[j].after[k].on) false=true:=h3;have hn':l[j].after[k].on<L0.size:=hn;simp [hn'] at h3' |-
    exact h3'
   ·rw [Bool.and_eq_true,decide_eq_true_eq,List.contains_iff_mem] at h3
    exact key _ h3.2 (hp _ h3.1)
  ·obtain ⟨i,hi,h'⟩:=hx
   have Ka:i∈js:=by
    rcases List.mem_cons.1 hi with rfl | hi
    ·rw [hj] at h';cases h'
    ·exact hi
   obtain ⟨k,hk,hr⟩:=jJ hs h0 Ra js (j :: pre) h.2 (by intro i hi;rcases List.mem_cons.1 hi with rfl | hi;exact hj;exact hp i hi) ⟨i,Ka,h'⟩
   exact ⟨k,by simp [hk],hr⟩
theorem fH {P:Program} {x:Sem Next} {w:World} {K K':Value -> World -> Prop} (h:∀ v w',K v w' -> K' v w') (hd:um P x w K):um P x w K':=by
 rcases hd with ⟨v,w',h1,h2⟩ | ⟨w',h1,h2⟩ | ⟨f,vals,h1,h2⟩
 ·exact .inl ⟨v,w',h1,h _ _ h2⟩
 ·exact .inr (.inl ⟨w',h1,h _ _ h2⟩)
 ·exact .inr (.inr ⟨f,vals,h1,h2.mono fun e w' ⟨v,he,hk⟩=>⟨v,he,h _ _ hk⟩⟩)
structure iA (l:List Oper) (T:List yh) (L0:Array Bool):Prop where
 size:L0.size=l.length
 nodup:(T.map (·.i)).Nodup
 topo:Iw l L0 [] (T.map (·.i))=true
 dst:∀ s∈T,∀ t∈T,s.i≠t.i -> ∀ x,dc l s.i=some x -> dc l t.i≠some x
 opers:∀ s∈T,∀ x∈AB l s.i,∀ t∈T,dc l t.i=some x -> t.i∈s.deps
 deps:∀ s∈T,∀ j∈s.deps,(∃ t∈T,t.i=j) /\ (l.length <= j \/ zq l s.i j=true)
 eat:∀ s∈T,∀ j∈s.eat,j∈s.deps /\ ∀ t∈T,t.i≠s.i -> j ∉ t.deps
 tail:∀ i,i<l.length -> L0.getD i true=false -> (∀ t∈T,t.i≠i) -> (∀ t∈T,l.length <= t.i \/ zq l i t.i=true) \/ ∃ j,j<l.length /\ L0.getD j true=false /\ (∀ t∈T,t.i≠j) /\ zq l i j=true
theorem iJ (h:zB l T L0=true):iA l T L0:=by
 unfold zB at h;simp only [Bool.and_eq_true,List.all_eq_true,List.any_eq_true,Bool.or_eq_true,beq_iff_eq,decide_eq_true_eq,List.contains_iff_mem,bne_iff_ne,ne_eq,Bool.not_eq_true',Option.isNone_iff_eq_none] at h;obtain ⟨⟨⟨⟨⟨⟨⟨h1,h2⟩,h3⟩,h4⟩,h5⟩,h6⟩,h7⟩,h8⟩:=h;refine ⟨h1,h2,h3,?_,?_,?_,?_,?_⟩
 ·intro s hs t ht Ka x hx
  rcases h4 s hs t ht with (e | e) | e
  ·exact absurd e Ka
  ·rw [e] at hx;cases hx
  ·rw [hx] at e;exact fun e'=>e e'.symm
 ·intro s hs x hx t ht e
  rcases h5 s hs x hx t ht with h | h
  ·exact absurd e h
  ·exact h
 ·intro s hs j hj
  exact h6 s hs j hj
 ·intro s hs j hj
  obtain ⟨h,h'⟩:=h7 s hs j hj;refine ⟨h,fun t ht Ka hd=>?_⟩
  rcases h' t ht with e | e
  ·exact Ka e
  ·rw [<- Bool.not_eq_true,List.contains_iff_mem] at e
   exact e hd
 ·intro i hi h0 hT
  rcases h8 i (List.mem_range.2 hi) with (h | ⟨t,ht,e⟩) | h | ⟨j,hj,h⟩
  ·rw [h0] at h;cases h
  ·exact absurd e (hT t ht)
  ·exact .inl h
  ·refine .inr ⟨j,List.mem_range.1 hj,h.1.1,fun t ht e=>?_,h.2⟩
   have:=h.1.2;rw [<- Bool.not_eq_true,List.any_eq_true] at this;exact this ⟨t,ht,by rw [beq_iff_eq];exact e⟩
theorem pN {L:Array Bool} {i:Nat} (h:i<L.size) (a b:Bool):L.getD i a=L.getD i b:=by simp [h]
theorem uk {L:Array Bool} {i j:Nat}:(L.setIfInBounds i true).getD j true=true↔L.getD j true=true \/ j=i:=by
 by_cases e:i=j
 ·subst e
  by_cases h:i<L.size <;> simp [h]
 ·rw [getD_set_ne true e]
  exact ⟨.inl,fun h=>h.resolve_right fun h=>e h.symm⟩
theorem rK {L:Array Bool} {i j:Nat} (h:(L.setIfInBounds i true).getD j true=false):L.getD j true=false:=by
 cases hj:L.getD j true
 ·rfl
 ·have:=uk (i:=i).2 (.inl hj)
  rw [h] at this;cases this
def Lw (own:Nat -> Nat) (w:World) (s:yh):Nat -> Nat:=fun b=>if b<w.heap.size /\ own b ∉ s.eat then own b else s.i
structure OC (l:List Oper) (T:List yh) (L:Array Bool) (own:Nat -> Nat) (w:World):Prop where
 own:∀ b,b<w.heap.size -> L.getD (own b) true=true
 deps:∀ t∈T,L.getD t.i true=true -> ∀ j∈t.deps,L.getD j true=true
theorem JP (ok:iA l T L0) {L:Array Bool} {vs:Nat -> Value} {own:Nat -> Nat} {a:Act} {w:World} (Kd:Region.noSelect l.toArray=true) (I:jA l T p B X w0 a0 L0 L vs own a w) {s:yh} (hs:s∈T) {o:Oper} (ho:l[s.i]?=some o) (hd:∀ j∈s.deps,L.getD j true=true) :
  execOp a.eval o=execOp (vd l vs a0 (s.deps.filter (·<l.length))).eval o:=by
 refine execOp_congr o (fun cs b=>Region.noSelect_spec Kd s.i o cs b (by rw [List.getElem?_toArray];exact ho)) fun x hx=>?_
 cases x with
 | tmp t =>
  have ht:t∈AB l s.i:=by
   unfold AB;rw [ho];exact List.mem_filterMap.2 ⟨.tmp t,by simpa using hx,rfl⟩
  have hTs:∀ j∈T.map (·.i),dc l j=some t -> j∈s.deps:=fun j hj e=>by
   obtain ⟨u,hu,rfl⟩:=List.mem_map.1 hj;exact ok.opers s hs t ht u hu e
  have hdd:∀ j∈s.deps,j∈T.map (·.i):=fun j hj=>by
   obtain ⟨⟨u,hu,e⟩,-⟩:=ok.deps s hs j hj;exact List.mem_map.2 ⟨u,hu,e⟩
  have huni:∀ j∈T.map (·.i),∀ k∈T.map (·.i),k≠j -> dc l j=some t -> dc l k≠some t:=fun j hj k hk Ka e=>by
   obtain ⟨u,hu,rfl⟩:=List.mem_map.1 hj;obtain ⟨v,hv,rfl⟩:=List.mem_map.1 hk;exact ok.dst u hu v hv (fun e=>Ka e.symm) t e
  have hlen:∀ j,dc l j=some t -> j<l.length:=fun j e=>by
   rcases Nat.lt_or_ge j l.length with h | h
   ·exact h
   ·unfold dc at e;rw [List.getElem?_eq_none h] at e;cases e
  rw [I.act];by_cases hex:∃ j∈s.deps,dc l j=some t
  ·obtain ⟨j,hj,e⟩:=hex
   have hjT:=hdd j hj;have h0:L0.getD j true=false:=by
    obtain ⟨u,hu,rfl⟩:=List.mem_map.1 hjT;exact (Jw _ _ ok.topo _ hjT _ (List.getElem?_eq_getElem (hlen _ e))).2
   rw [aF l vs t j e _ _ (List.mem_filter.2 ⟨hjT,by rw [hd j hj,h0];rfl⟩) fun k hk Ka=>huni j hjT k (List.mem_filter.1 hk).1 Ka e,
    aF l vs t j e _ _ (List.mem_filter.2 ⟨hj,by simpa using hlen j e⟩) fun k hk Ka=>huni j hjT k (hdd k (List.mem_filter.1 hk).1) Ka e]
  ·rw [LB l vs t _ _ fun j hj e=>hex ⟨j,hTs j (List.mem_filter.1 hj).1 e,e⟩,LB l vs t _ _ fun j hj e=>hex ⟨j,(List.mem_filter.1 hj).1,e⟩]
 | _=>rfl
theorem TP (ok:iA l T L0) {L:Array Bool} {vs:Nat -> Value} {own:Nat -> Nat} {a:Act} {w:World} (I:jA l T p B X w0 a0 L0 L vs own a w) (J:OC l T L own w) (hB:B <= w0.heap.size)
  (Ef:∀ s∈T,tx p B X w0 s) {s:yh} (hs:s∈T) {o:Oper} (ho:l[s.i]?=some o) (hL:L.getD s.i true=false) (hd:∀ j∈s.deps,L.getD j true=true) {v:Value} {w':World}
  (he:Oi B X w w') (hk:∀ b,b<w.heap.size -> (∀ j∈s.eat,¬yl B X own w j b) -> w'.heap[b]?=w.heap[b]?)
  (hp:p s.i (Jh vs s.i v) (fun b=>(w.heap.size <= b /\ b<w'.heap.size) \/ ∃ j∈s.eat,yl B X own w j b) w') :
  jA l T p B X w0 a0 L0 (L.setIfInBounds s.i true) (Jh vs s.i v) (Lw own w s) (a.put o.dst v) w' /\ OC l T (L.setIfInBounds s.i true) (Lw own w s) w':=by
 have hsi:s.i<l.length:=(List.getElem?_eq_some_iff.1 ho).1;have hoi:dc l s.i=o.dst:=by simp [dc,ho]
 have hsT:s.i∈T.map (·.i):=List.mem_map.2 ⟨s,hs,rfl⟩
 have hL0:L0.getD s.i true=false:=(Jw _ _ ok.topo _ hsT _ ho).2;have Ka:∀ b,b<w.heap.size -> own b≠s.i:=fun b hb e=>by
  have:=J.own b hb;rw [e,hL] at this;cases this
 have XH:∀ t∈T,t.i=s.i -> t=s:=fun t ht e=>by
  have hn:=ok.nodup;obtain ⟨i,hi,rfl⟩:=List.getElem_of_mem ht;obtain ⟨j,hj,rfl⟩:=List.getElem_of_mem hs;have:=(List.getElem_inj (h₀:=by simpa using hi) (h₁:=by simpa using hj) hn).1 (by simpa using e)
  subst this
  rfl
 refine ⟨⟨by simp [I.size],fun i h=>uk.2 (.inl (I.old i h)),fun i h=>?_,zM I.eff he,?_,?_⟩,⟨fun b hb=>?_,fun t ht h j hj=>?_⟩⟩
 ·rcases uk.1 h with h | rfl
  ·exact I.new i h
  ·exact .inr ⟨s,hs,rfl⟩
 ·rw [I.act,<- hoi]
  refine (bF l vs s.i v _ _ _ a0 ok.nodup hsT (by rw [hL];rfl) (by rw [uk.2 (.inr rfl),hL0];rfl) (fun j _ Ka=>?_) (fun j hj Ka t e=>?_)).symm
  ·have:(L.setIfInBounds s.i true).getD j true=L.getD j true:=getD_set_ne true fun e=>Ka e.symm
   rw [this]
  ·obtain ⟨u,hu,rfl⟩:=List.mem_map.1 hj
   exact ok.dst s hs u hu (fun e=>Ka e.symm) t e
 ·intro t ht hLt hea
  by_cases e:t.i=s.i
  ·obtain rfl:=XH t ht e
   have e2:yl B X (Lw own w t) w' t.i=(fun b=>(w.heap.size <= b /\ b<w'.heap.size) \/ ∃ j∈t.eat,yl B X own w j b):=by
    funext b
    apply propext
    unfold yl Lw;constructor
    ·rintro ⟨h1,h2,h3⟩
     rcases Nat.lt_or_ge b w.heap.size with h | h
     ·by_cases hm:own b∈t.eat
      ·exact .inr ⟨own b,hm,h,h2,rfl⟩
      ·rw [if_pos ⟨h,hm⟩] at h3
       exact absurd h3 (Ka b h)
     ·exact .inl ⟨h,h1⟩
    ·rintro (⟨h1,h2⟩ | ⟨j,hj,h1,h2,rfl⟩)
     ·exact ⟨h2, .inl (Nat.le_trans hB (Nat.le_trans I.eff.2.2.2.1 h1)),if_neg fun h=>by omega⟩
     ·exact ⟨Nat.lt_of_lt_of_le h1 he.2.2.2.1,h2,if_neg fun h=>h.2 hj⟩
   rw [e2];exact hp
  ·have hLt':L.getD t.i true=true:=(uk.1 hLt).resolve_right e
   have hte:t.i ∉ s.eat:=fun h=>by
    have:=hea s hs h;rw [uk.2 (.inr rfl)] at this;cases this
   have hf:=I.facts t ht hLt' fun k hk h=>rK (hea k hk h)
   have e2:yl B X (Lw own w s) w' t.i=yl B X own w t.i:=by
    funext b
    apply propext
    unfold yl Lw;constructor
    ·rintro ⟨h1,h2,h3⟩
     by_cases hm:b<w.heap.size /\ own b ∉ s.eat
     ·rw [if_pos hm] at h3
      exact ⟨hm.1,h2,h3⟩
     ·rw [if_neg hm] at h3
      exact absurd h3.symm e
    ·rintro ⟨h1,h2,h3⟩
     rw [<- h3] at hte;exact ⟨Nat.lt_of_lt_of_le h1 he.2.2.2.1,h2,by rw [if_pos ⟨h1,hte⟩];exact h3⟩
   rw [e2];refine Ef t ht vs _ _ w w' I.eff he (fun m hm=>IF fun e=>?_) (fun b hb=>hb.1) (fun b hb=>?_) hf
   ·subst e
    rcases List.mem_cons.1 hm with h | h
    ·exact ‹¬t.i=s.i› h.symm
    ·have:=J.deps t ht hLt' _ h
     rw [hL] at this;cases this
   ·refine hk b hb.1 fun j hj hO=>?_
    have:=hO.2.2;rw [hb.2.2] at this;exact hte (this ▸ hj)
 ·unfold Lw
  split
  ·rename_i h
   exact uk.2 (.inl (J.own b h.1))
  ·exact uk.2 (.inr rfl)
 ·rcases uk.1 h with h | h
  ·exact uk.2 (.inl (J.deps t ht h j hj))
  ·obtain rfl:=XH t ht h
   exact uk.2 (.inl (hd j hj))
def Al (T:List yh) (L0:Array Bool):Array Bool:=T.foldl (fun L s=>L.setIfInBounds s.i true) L0
theorem tG:∀ (T:List yh) (L0:Array Bool) (j:Nat),(Al T L0).getD j true=true↔L0.getD j true=true \/ ∃ t∈T,t.i=j
 | [],L0,j=>by simp [Al]
 | s :: T,L0,j=>by
  show (Al T (L0.setIfInBounds s.i true)).getD j true=true↔_
  rw [tG T,uk];constructor
  ·rintro ((h | rfl) | ⟨t,ht,e⟩)
   ·exact .inl h
   ·exact .inr ⟨s,by simp,rfl⟩
   ·exact .inr ⟨t,by simp [ht],e⟩
  ·rintro (h | ⟨t,ht,e⟩)
   ·exact .inl (.inl h)
   ·rcases List.mem_cons.1 ht with rfl | ht
    ·exact .inl (.inr e.symm)
    ·exact .inr ⟨t,ht,e⟩
theorem uG:∀ (T:List yh) (L0:Array Bool),(Al T L0).size=L0.size
 | [],_=>rfl
 | s :: T,L0=>by
  show (Al T (L0.setIfInBounds s.i true)).size=_
  rw [uG T];simp
theorem LP (M:uc R) (Kd:Region.noSelect l.toArray=true) (ok:iA l T L0) (hB:B <= w0.heap.size) (hR:∀ w',Oi B X w0 w' -> R w0 w') (Ef:∀ s∈T,tx p B X w0 s) (mz:∀ s∈T,oA P l p B X w0 a0 s) {fr:Nat}
  (Uo:∀ (w:World) (vs:Nat -> Value) (F:Nat -> Nat -> Prop),Oi B X w0 w -> (∀ s∈T,(∀ k∈T,s.i ∉ k.eat) -> p s.i vs (F s.i) w /\ ∀ b,F s.i b -> b<w.heap.size /\ (B <= b \/ X b)) -> (∀ j k b,j≠k -> F j b -> ¬F k b) ->
   vh P l.toArray Q R fr (Al T L0) (vd l vs a0 ((T.map (·.i)).filter (·<l.length))) w) :
  ∀ (n:Nat) (L:Array Bool) (vs:Nat -> Value) (own:Nat -> Nat) (a:Act) (w:World),(T.filter fun s=>!L.getD s.i true).length=n -> jA l T p B X w0 a0 L0 L vs own a w -> OC l T L own w -> wpAnyH P .any l.toArray Q (R w0) (n+fr) L a w:=by
 intro n
 induction n with
 | zero =>
  intro L vs own a w hn I J;have hup:∀ t∈T,L.getD t.i true=true:=fun t ht=>by
   have:=List.eq_nil_of_length_eq_zero hn;rw [List.filter_eq_nil_iff] at this
   simpa using this t ht
  have hLe:L=Al T L0:=by
   apply Array.ext
   ·rw [uG,I.size,ok.size]
   ·intro i h1 h2
    have e1:L.getD i true=L[i]:=by simp [h1]
    have e2:(Al T L0).getD i true=(Al T L0)[i]:=by simp [h2]
    rw [<- e1,<- e2,Bool.eq_iff_iff,tG];constructor
    ·exact I.new i
    ·rintro (h | ⟨t,ht,rfl⟩)
     ·exact I.old i h
     ·exact hup t ht
  have hact:a=vd l vs a0 ((T.map (·.i)).filter (·<l.length)):=by
   rw [I.act]
   congr 1
   refine List.filter_congr fun j hj=>?_
   obtain ⟨t,ht,rfl⟩:=List.mem_map.1 hj;rw [hup t ht,Bool.true_and];rcases Nat.lt_or_ge t.i l.length with h | h
   ·rw [(Jw _ _ ok.topo _ hj _ (List.getElem?_eq_getElem h)).2]
    simp [h]
   ·have:L0.getD t.i true=true:=by rw [<- ok.size] at h;simp [Nat.not_lt.2 h]
    rw [this];simp [Nat.not_lt.2 h]
  have hf:=Uo w vs (yl B X own w) I.eff (fun s hs Ka=>⟨I.facts s hs (hup s hs) fun k hk h=>absurd h (Ka k hk),fun b hb=>⟨hb.1,hb.2.1⟩⟩) (fun j k b Ka h1 h2=>Ka (h1.2.2.symm.trans h2.2.2))
  rw [Nat.zero_add,hLe,hact];exact jC (fun w2 h2=>M.trans _ _ _ (hR _ I.eff) h2) _ _ _ _ hf
 | succ n ih =>
  intro L vs own a w hn I J;have hex:∃ s∈T,L.getD s.i true=false:=by
   cases h:T.filter (fun s=>!L.getD s.i true) with
   | nil=>rw [h] at hn;cases hn
   | cons s r =>
    have:s∈T.filter (fun s=>!L.getD s.i true):=by rw [h];simp
    obtain ⟨h1,h2⟩:=List.mem_filter.1 this;exact ⟨s,h1,by simpa using h2⟩
  rw [show n+1+fr=(n+fr)+1 by omega]
  refine ⟨fun h=>?_,fun i hi=>?_⟩
  ·obtain ⟨s,hs,h'⟩:=hex
   obtain ⟨i,-,hi⟩:=jJ I.size I.old ok.size _ _ ok.topo (by simp) ⟨s.i,List.mem_map.2 ⟨s,hs,rfl⟩,h'⟩
   rw [h] at hi;cases hi
  ·obtain ⟨hLi,o,ho,Te⟩:=mem_ready.1 hi
   rw [List.getElem?_toArray] at ho;have hil:i<l.length:=(List.getElem?_eq_some_iff.1 ho).1;have ND:∀ j,zq l i j=true -> L.getD j true=true:=fun j h=>by
    obtain ⟨o',ho',e,he,hb,rfl⟩:=iH h;rw [ho] at ho';obtain rfl:=Option.some.inj ho';have:=Te e he hb;rcases Nat.lt_or_ge e.on L.size with h | h
    ·rw [pN h true false];exact this
    ·simp [Nat.not_lt.2 h]
   have hT:∃ s∈T,s.i=i:=by
    refine Classical.byContradiction fun pn=>?_
    have h0:L0.getD i true=false:=by
     cases h:L0.getD i true
     ·rfl
     ·have:=I.old i h;rw [hLi] at this;cases this
    rcases ok.tail i hil h0 (fun t ht e=>pn ⟨t,ht,e⟩) with h | ⟨j,hj,h1,h2,h3⟩
    ·obtain ⟨s,hs,h'⟩:=hex
     rcases h s hs with h | h
     ·rw [<- I.size] at h
      simp [Nat.not_lt.2 h] at h'
     ·rw [ND _ h] at h';cases h'
    ·have h4:=ND _ h3
     rcases I.new j h4 with h | ⟨t,ht,e⟩
     ·rw [h1] at h;cases h
     ·exact h2 t ht e
   obtain ⟨s,hs,rfl⟩:=hT;have hd:∀ j∈s.deps,L.getD j true=true:=fun j hj=>by
    rcases (ok.deps s hs j hj).2 with h | h
    ·rw [<- I.size] at h;simp [Nat.not_lt.2 h]
    ·exact ND _ h
   have hg:=(Jw _ _ ok.topo s.i (List.mem_map.2 ⟨s,hs,rfl⟩) o ho).1;unfold wpOp;rw [List.getElem?_toArray,ho];simp only [Region.wanted,hg,if_true];refine .inl (qM ?_);rw [JP ok Kd I hs ho hd];refine fH ?_ (mz s hs o ho w vs (yl B X own w) I.eff (fun j hj=>⟨?_,fun b hb=>⟨hb.1,hb.2.1⟩⟩) fun j k b Ka h1 h2=>Ka (h1.2.2.symm.trans h2.2.2))
   ·rintro v w' ⟨he,hk,hp⟩
    obtain ⟨I',J'⟩:=TP ok I J hB Ef hs ho hLi hd he hk hp;refine ⟨hR _ I'.eff,ih _ _ _ _ _ ?_ I' J'⟩;have e1:(T.filter fun t=>!(L.setIfInBounds s.i true).getD t.i true)=(T.filter fun t=>!L.getD t.i true).filter fun t=>t.i != s.i:=by
     rw [List.filter_filter];refine List.filter_congr fun t ht=>?_
     rw [Bool.eq_iff_iff];simp only [Bool.not_eq_true',Bool.and_eq_true,bne_iff_ne,ne_eq];constructor
     ·intro h
      refine ⟨fun e=>?_,rK h⟩
      rw [uk.2 (.inr e)] at h;cases h
     ·rintro ⟨h1,h2⟩
      cases h:(L.setIfInBounds s.i true).getD t.i true
      ·rfl
      ·rcases uk.1 h with h | h
       ·rw [h2] at h;cases h
       ·exact absurd h h1
    rw [e1];have:=dJ (T.filter fun t=>!L.getD t.i true) s.i ((List.Sublist.map _ List.filter_sublist).nodup ok.nodup) ⟨s,List.mem_filter.2 ⟨hs,by rw [hLi];rfl⟩,rfl⟩
    omega
   ·obtain ⟨⟨t,ht,rfl⟩,-⟩:=ok.deps s hs j hj
    refine I.facts t ht (hd _ hj) fun k hk h=>?_
    by_cases e:k.i=s.i
    ·rw [e];exact hLi
    ·exact absurd hj ((ok.eat k hk _ h).2 s hs fun e'=>e e'.symm)
where
 dJ:∀ (T:List yh) (i:Nat),(T.map (·.i)).Nodup -> (∃ s∈T,s.i=i) -> (T.filter fun t=>t.i != i).length+1=T.length
  | [],_,_,⟨_,h,_⟩=>by cases h
  | t :: T,i,hn,⟨s,hs,e⟩=>by
   obtain ⟨h1,h2⟩:=List.nodup_cons.1 hn;by_cases ht:t.i=i
   ·rw [List.filter_cons_of_neg (by simp [ht])]
    have:T.filter (fun t=>t.i != i)=T:=List.filter_eq_self.2 fun u hu=>by
     rw [bne_iff_ne];intro e';exact h1 (List.mem_map.2 ⟨u,hu,e'.trans ht.symm⟩)
    rw [this];rfl
   ·rw [List.filter_cons_of_pos (by simpa using ht)]
    have:=dJ T i h2 (by
     rcases List.mem_cons.1 hs with rfl | hs
     ·exact absurd e ht
     ·exact ⟨s,hs,e⟩)
    simp only [List.length_cons];omega
theorem CT (M:uc R) (Kd:Region.noSelect l.toArray=true) (Ia:zB l T L0=true) (hB:B <= w0.heap.size) (hR:∀ w',Oi B X w0 w' -> R w0 w') (vs0:Nat -> Value) (ph:Nat -> Nat) (Tt:∀ b,b<w0.heap.size -> l.length <= ph b)
  (h0:∀ s∈T,l.length <= s.i -> p s.i vs0 (yl B X ph w0 s.i) w0) (Ef:∀ s∈T,tx p B X w0 s) (mz:∀ s∈T,oA P l p B X w0 a0 s) {fr n:Nat} (hn:(T.filter (fun s=>!L0.getD s.i true)).length+fr=n)
  (Uo:∀ (w:World) (vs:Nat -> Value) (F:Nat -> Nat -> Prop),Oi B X w0 w -> (∀ s∈T,(∀ k∈T,s.i ∉ k.eat) -> p s.i vs (F s.i) w /\ ∀ b,F s.i b -> b<w.heap.size /\ (B <= b \/ X b)) -> (∀ j k b,j≠k -> F j b -> ¬F k b) ->
   vh P l.toArray Q R fr (Al T L0) (vd l vs a0 ((T.map (·.i)).filter (·<l.length))) w):vh P l.toArray Q R n L0 a0 w0:=by
 have ok:=iJ Ia;have aw:∀ j,l.length <= j -> L0.getD j true=true:=fun j h=>by rw [<- ok.size] at h;simp [Nat.not_lt.2 h]
 have hlow:∀ s∈T,L0.getD s.i true=true -> l.length <= s.i:=fun s hs h=>by
  rcases Nat.lt_or_ge s.i l.length with h1 | h1
  ·rw [(Jw _ _ ok.topo _ (List.mem_map.2 ⟨s,hs,rfl⟩) _ (List.getElem?_eq_getElem h1)).2] at h;cases h
  ·exact h1
 subst hn;refine LP M Kd ok hB hR Ef mz Uo _ L0 vs0 ph a0 w0 rfl ⟨ok.size,fun _ h=>h,fun _ h=>.inl h,yM _ _ _,?_,fun s hs h _=>h0 s hs (hlow s hs h)⟩ ⟨fun b hb=>aw _ (Tt b hb),fun t ht h j hj=>?_⟩
 ·have:(T.map (·.i)).filter (fun j=>L0.getD j true&&!L0.getD j true)=[]:=List.filter_eq_nil_iff.2 fun j _=>by cases L0.getD j true <;> simp
  rw [this]
  rfl
 ·rcases (ok.deps t ht j hj).2 with h' | h'
  ·exact aw j h'
  ·obtain ⟨o,ho,-⟩:=iH h'
   have:=hlow t ht h;rw [List.getElem?_eq_none this] at ho;cases ho
end
def Tp (B:Nat) (w w':World):Prop:=Below B w w'
theorem Ad (B:Nat):uc (Tp B):=⟨fun w=>Below.refl _ w,fun _ _ _ h k=>Below.trans h k⟩
theorem FH {B:Nat} {w w':World} (h:Tp B w.drew w'):∀ b o,b<B -> w'.cell? ⟨b,o,none⟩=w.cell? ⟨b,o,none⟩:=fun b o hb=>Below.cell h (p:=⟨b,o,none⟩) hb
theorem xk {a b:Prop} (h:a) (s:Imp a b:=by
 (repeat ((first | (apply Imp.via (Yw (Ad _) rfl rfl (fun _ _ _ h=>h))) | (apply Imp.via (Xw (v:=?_) (Ad _) rfl rfl (fun _ _ _ h=>h) ?hr);case hr=>(intro w' hR;(first | have yi:=FH ((Ad _).trans _ _ _ da hR) | skip);go_simp;try with_reducible rfl)));simp only [Act.put,zLa,zLb,zLc]))
 exact Imp.rfl'):b:=s h
theorem Mo {B:Nat} {w w':World} (h:Below w.heap.size w w') (hB:B <= w.heap.size):Tp B w w':=h.mono hB
theorem tt {B:Nat} (w:World) {g i:Nat} (v:Value) (hg:B <= g):Tp B w (w.setCell ⟨g,i,none⟩ v):=(Below.refl B w).setCell (p:=⟨g,i,none⟩) hg v
def okL (l:List Oper):List Nat -> Array Bool -> Bool
 | [],_=>true
 | i :: rest,ta=>decide (i<l.length)&&Region.free .any l.toArray ta i&&(Region.ready .any l.toArray ta).contains i&&okL l rest (ta.setIfInBounds i true)
def Bu (P:Program) (l:List Oper) (Q:Exit -> Act -> World -> Prop) (R:World -> World -> Prop) (order:List Nat) (fuel:Nat) (ta:Array Bool) (a:Act) (w:World):Prop :=
 Region.noSelect l.toArray=true -> okL l order ta=true -> vh P l.toArray Q R (order.length+fuel) ta a w
section
variable {P:Program} {l:List Oper} {Q:Exit -> Act -> World -> Prop} {R:World -> World -> Prop} {rest:List Nat} {fuel i:Nat} {o:Oper} {ta:Array Bool} {a:Act} {w:World}
theorem vT {id:Nat} (R:World -> World -> Prop) (order:List Nat) (fuel:Nat) (hm:P.follows .mixedOrders=true) (Ia:(Region.noSelect l.toArray&&order.length+fuel == l.length&&okL l order (List.replicate l.length false).toArray)=true)
  (h:Bu P l Q R order fuel (List.replicate l.length false).toArray a w.drew):(Code.region id l.toArray true).wp P Q a w:=by
 simp only [Bool.and_eq_true,beq_iff_eq] at Ia;refine Nz R hm ?_;rw [<- Ia.1.2];have:=h Ia.1.1 Ia.2
 rwa [Ia.1.2] at this |-
theorem zT (M:uc R) {order:List Nat} (h:∀ W,Hid (W=w) -> R w W -> Bu P l Q R order fuel ta a W):Bu P l Q R order fuel ta a w:=h w rfl (M.refl w)
theorem gJ (h:okL l (i :: rest) ta=true):i<l.length /\ Region.free .any l.toArray ta i=true /\ (Region.ready .any l.toArray ta).contains i=true /\ okL l rest (ta.setIfInBounds i true)=true:=by
 unfold okL at h;simp only [Bool.and_eq_true,decide_eq_true_eq] at h;obtain ⟨⟨⟨h1,h2⟩,h3⟩,h4⟩:=h;exact ⟨h1,h2,h3,h4⟩
theorem wT {v:Value} (M:uc R) (ho:l[i]?=some o) (hw:Region.wanted o (yielded l.toArray a.tmps)=true) (hQ:∀ c a w,Q (.panic c) (a.put o.dst v) w -> Q (.panic c) a w)
  (Xb:∀ w',R w w' -> (execOp a.eval o).run P w'= .ok (.value v) w') (h:Bu P l Q R rest fuel (ta.setIfInBounds i true) (a.put o.dst v) w):Bu P l Q R (i :: rest) fuel ta a w:=by
 intro hn Ia;obtain ⟨h1,h2,h3,h5⟩:=gJ Ia;have e:=Hq (h:=h1) ho;subst e;have:=Qg (fuel:=rest.length+fuel) i M h1 hn h2 h3 hQ (.inl ⟨hw,Xb⟩) (h hn h5);rw [List.length_cons,show rest.length+1+fuel=rest.length+fuel+1 by omega]
 exact this
theorem yT (M:uc R) (ho:l[i]?=some o) (hw:Region.wanted o (yielded l.toArray a.tmps)=false) (hQ:∀ c a w,Q (.panic c) (a.put o.dst undef) w -> Q (.panic c) a w)
  (h:Bu P l Q R rest fuel (ta.setIfInBounds i true) (a.put o.dst undef) w):Bu P l Q R (i :: rest) fuel ta a w:=by
 intro hn Ia;obtain ⟨h1,h2,h3,h5⟩:=gJ Ia;have e:=Hq (h:=h1) ho;subst e;have:=Qg (fuel:=rest.length+fuel) i M h1 hn h2 h3 hQ (.inr ⟨hw,rfl⟩) (h hn h5);rw [List.length_cons,show rest.length+1+fuel=rest.length+fuel+1 by omega]
 exact this
end
def sk (a:Act) (vs:Nat -> Value) (js:List (Option Tmp × Nat)):Act:=js.foldl (fun a j=>a.put j.1 (vs j.2)) a
theorem MB (l:List Oper) (vs:Nat -> Value):∀ (js:List Nat) (a:Act),vd l vs a js=sk a vs (js.map fun j=>(dc l j,j))
 | [],_=>rfl
 | _ :: js,_=>MB l vs js _
section
variable {P:Program} {l:List Oper} {Q:Exit -> Act -> World -> Prop} {R:World -> World -> Prop} {T:List yh} {ps:List (Nat × xm)} {B:Nat} {w0:World} {a0:Act} {L0:Array Bool}
abbrev Wu:Nat -> Prop:=fun _=>False
theorem IA {B:Nat} {w w':World}:Oi B Wu w w'↔Below B w w':=⟨fun h=>⟨h.1,h.2.1,h.2.2.1,h.2.2.2.1,fun b hb=>h.2.2.2.2 b hb id⟩,fun h=>⟨h.os,h.tape,h.output,h.size,fun b hb _=>h.block b hb⟩⟩
def ny (w w':World) (F:Nat -> Nat -> Prop) (eat:List Nat):Nat -> Prop:=fun b=>(w.heap.size <= b /\ b<w'.heap.size) \/ ∃ j∈eat,F j b
def qx (B:Nat) (w w':World) (F:Nat -> Nat -> Prop) (eat:List Nat):Prop:=Below B w w' /\ ∀ b,b<w.heap.size -> (∀ j∈eat,¬F j b) -> w'.heap[b]?=w.heap[b]?
theorem bP (B:Nat) (w:World) (F:Nat -> Nat -> Prop) (eat:List Nat):qx B w w F eat:=⟨Below.refl _ _,fun _ _ _=>rfl⟩
theorem aJ {B:Nat} {w w':World} (h:Below w.heap.size w w') (hB:B <= w.heap.size) (F:Nat -> Nat -> Prop) (eat:List Nat):qx B w w' F eat:=⟨h.mono hB,fun b hb _=>h.block b hb⟩
theorem xT (M:uc R) (T:List yh) (ps:List (Nat × xm)) (js:List (Option Tmp × Nat)) (hs tail:List Nat) {fuel:Nat} (hn:Region.noSelect l.toArray=true)
  (Ia:(zB l T L0&&(T.all fun s=>decide (s.i<l.length))&&decide (T.length+tail.length=fuel)&&Qr l hs tail (Al T L0)&&(((T.map (·.i)).map fun j=>(dc l j,j)) == js))=true)
  (hB:B <= w0.heap.size) (hR:∀ w',Below B w0 w' -> R w0 w') (Ef:∀ s∈T,tx (Mw ps) B Wu w0 s) (mz:∀ s∈T,oA P l (Mw ps) B Wu w0 a0 s)
  (Uo:∀ (w:World) (vs:Nat -> Value) (F:Nat -> Nat -> Prop),Below B w0 w -> (∀ s∈T,(∀ k∈T,s.i ∉ k.eat) -> Mw ps s.i vs (F s.i) w /\ ∀ b,F s.i b -> b<w.heap.size /\ B <= b) -> (∀ j k b,j≠k -> F j b -> ¬F k b) ->
   Mi P l hs Q R tail (Al T L0) (sk a0 vs js) w):Bu P l Q R [] fuel L0 a0 w0:=by
 intro _ _;simp only [Bool.and_eq_true,beq_iff_eq,decide_eq_true_eq] at Ia;obtain ⟨⟨⟨⟨h1,h2⟩,h3⟩,h4⟩,h5⟩:=Ia;rw [List.all_eq_true] at h2;have ok:=iJ h1;have oa:∀ s∈T,s.i<l.length:=fun s hs=>by simpa using h2 s hs
 have Te:∀ s∈T,L0.getD s.i true=false:=fun s hs=>(Jw _ _ ok.topo _ (List.mem_map.2 ⟨s,hs,rfl⟩) _ (List.getElem?_eq_getElem (oa s hs))).2
 rw [List.length_nil,Nat.zero_add];refine CT (X:=Wu) (fr:=tail.length) M hn h1 hB (fun w' h=>hR w' (IA.1 h)) (fun _=>undef) (fun _=>l.length) (fun _ _=>zR) (fun s hs h=>absurd (oa s hs) (Nat.not_lt.2 h)) Ef mz ?_ fun w vs F he hf hd=>?_
 ·rw [List.filter_eq_self.2 fun s hs=>by rw [Te s hs];rfl]
  exact h3
 ·have e:(T.map (·.i)).filter (·<l.length)=T.map (·.i):=List.filter_eq_self.2 fun j hj=>by
   obtain ⟨s,hs,rfl⟩:=List.mem_map.1 hj
   simpa using oa s hs
  rw [e,MB,h5];exact Uo w vs F (IA.1 he) (fun s hs Ka=>⟨(hf s hs Ka).1,fun b hb=>⟨((hf s hs Ka).2 b hb).1,((hf s hs Ka).2 b hb).2.resolve_right id⟩⟩) hd hn h4
theorem GF {s:yh} {o:Oper} (js:List (Option Tmp × Nat)) (ho:l[s.i]?=some o) (hjs:((s.deps.filter (·<l.length)).map fun j=>(dc l j,j))=js)
  (h:∀ (w:World) (vs:Nat -> Value) (F:Nat -> Nat -> Prop),Below B w0 w -> (∀ j∈s.deps,Mw ps j vs (F j) w /\ ∀ b,F j b -> b<w.heap.size /\ B <= b) -> (∀ j k b,j≠k -> F j b -> ¬F k b) ->
   um P (execOp (sk a0 vs js).eval o) w fun v w'=>qx B w w' F s.eat /\ Mw ps s.i (Jh vs s.i v) (ny w w' F s.eat) w'):oA P l (Mw ps) B Wu w0 a0 s:=by
 intro o' ho' w vs F he hd Sv;rw [ho] at ho';obtain rfl:=Option.some.inj ho';rw [MB,hjs];refine fH ?_ (h w vs F (IA.1 he) (fun j hj=>⟨(hd j hj).1,fun b hb=>⟨((hd j hj).2 b hb).1,((hd j hj).2 b hb).2.resolve_right id⟩⟩) Sv)
 rintro v w' ⟨h1,h2⟩;exact ⟨IA.2 h1.1,h1.2,h2⟩
end
def By (f:(Nat -> Value) -> Value) (i:Nat):xm:=fun vs _ _=>vs i=f vs
def Rp (t:TypeId) (cs:(Nat -> Value) -> Array Value) (mk:Nat -> Value) (i:Nat):xm:=fun vs F w=>∃ g,vs i=mk g /\ F g /\ Blk w g t (cs vs)
abbrev Ng (n:Nat):Nat -> Value:=fun g=>.slice (some ⟨g,0,none⟩) n n
abbrev mkP:Nat -> Value:=fun g=>.pointer (some ⟨g,0,none⟩)
section
variable {p:Nat -> xm} {B:Nat} {X:Nat -> Prop} {w0:World} {s:yh}
theorem SS {f:(Nat -> Value) -> Value} (hp:p s.i=By f s.i) (hf:∀ vs us:Nat -> Value,(∀ m∈s.deps,us m=vs m) -> f us=f vs):tx p B X w0 s:=by
 intro vs us F w w' _ _ h _ _ hv;rw [hp] at hv |-;unfold By at *;rw [h _ (by simp),hv,hf vs us fun m hm=>h m (by simp [hm])]
theorem tK {t:TypeId} {cs:(Nat -> Value) -> Array Value} {mk:Nat -> Value} (hp:p s.i=Rp t cs mk s.i) (hf:∀ vs us:Nat -> Value,(∀ m∈s.deps,us m=vs m) -> cs us=cs vs):tx p B X w0 s:=by
 intro vs us F w w' _ _ h _ hk hv;rw [hp] at hv |-;obtain ⟨g,h1,h2,h3⟩:=hv;exact ⟨g,by rw [h _ (by simp),h1],h2,by rw [hf vs us fun m hm=>h m (by simp [hm])];exact (hk g h2).trans h3⟩
theorem OG {w w':World} {t:TypeId} {cs:(Nat -> Value) -> Array Value} {mk:Nat -> Value} {F:Nat -> Nat -> Prop} {eat:List Nat} {vs:Nat -> Value} {i g:Nat} (h:Blk w' g t (cs (Jh vs i (mk g)))) (hg:w.heap.size <= g):Rp t cs mk i (Jh vs i (mk g)) (ny w w' F eat) w' :=
 ⟨g,JK _ _ _, .inl ⟨hg,h.lt⟩,h⟩
end
def Xa:Nat:=18446744069414584321
theorem JE:Db Xa=true:=by decide
def rM (x:Nat) (r:List Nat) (k:Nat):Nat:=Wn Xa (Si Xa 22 (x%Xa :: r)) k
end Go.Proofs.YtjipleoamlmkfaaGreat
