/- A part of the proof. No condition. -/
import Derived.Deep.RegionHeld3
import Derived.Test.YtdhhdplholkmdaaGreatProg
import Derived.Test.YtdhhdplholkmdaaGreatPC1

namespace Go.Proofs.YtdhhdplholkmdaaGreat
open Go.RowKit
structure Yx (R:World→World→Prop):Prop where
 refl:∀ w,R w w
 trans:∀ a b c,R a b→R b c→R a c
def Yj (w w':World):Prop:=Below w.heap.size w w'
theorem later_moves:Yx Yj:=⟨fun w=>Below.refl _ w,fun _ _ _ h k=>Za h k⟩
def Vg (g:Nat) (w w':World):Prop:=w.grownBy w' (some g)
theorem Zc (g:Nat):Yx (Vg g):=⟨fun w=>ZO w _,fun _ _ _ h k=>JB h k fun _ e=>.inl e⟩
section
variable {P:Program} {ops:Array Oper} {Q:Exit→Act→World→Prop} {R:World→World→Prop}
theorem Jy {S S':World→Prop} (hS:∀ w,S' w→S w):∀ (fuel:Nat) (listed:Array Bool) (a:Act) (w:World),wpAnyH P .any ops Q S' fuel listed a w→wpAnyH P .any ops Q S fuel listed a w
 | 0,_,_,_,h=>h
 | fuel+1,_,_,_,h=>⟨h.1,fun i hi=>wpOp_mono (fun a' w' h'=>⟨hS _ h'.1,Jy hS fuel _ a' w' h'.2⟩) (h.2 i hi)⟩
def wpR (P:Program) (ops:Array Oper) (Q:Exit→Act→World→Prop) (R:World→World→Prop) (fuel:Nat) (listed:Array Bool) (a:Act) (w:World):Prop :=
 wpAnyH P .any ops Q (R w) fuel listed a w
theorem Jp {id:Nat} {a:Act} {w:World} {l:List Oper} (R:World→World→Prop) (hm:P.follows .mixedOrders=true) (h:wpR P l.toArray Q R l.length (List.replicate l.length false).toArray a w.drew):(Code.region id l.toArray true).wp P Q a w:=by
 refine wp_region_held (S:=R w.drew) hm ?_
 have e:Array.replicate l.toArray.size false=(List.replicate l.length false).toArray:=by simp
 rw [e]
 simpa [wpR] using h
theorem GY {fuel:Nat} {listed:Array Bool} {a:Act} {w:World} (hr:Region.ready .any ops listed=[]) (h:Q .normal a w):wpR P ops Q R fuel listed a w:=wpAnyH_done hr h fuel
end
section
variable {P:Program} {l:List Oper} {Q:Exit→Act→World→Prop} {R:World→World→Prop}
theorem YA (i:Nat) {v:Value} {fuel:Nat} {listed:Array Bool} {a:Act} {w:World} (M:Yx R) (hlt:i<l.length)
  (hs:Region.noSelect l.toArray=true) (hf:Region.free .any l.toArray listed i=true) (hr:(Region.ready .any l.toArray listed).contains i=true)
  (hQ:∀ c a w,Q (.panic c) (a.put l[i].dst v) w→Q (.panic c) a w)
  (hy:(Region.wanted l[i] (yielded l.toArray a.tmps)=true∧∀ w',R w w'→(execOp a.eval l[i]).run P w'= .ok (.value v) w')∨(Region.wanted l[i] (yielded l.toArray a.tmps)=false∧v=undef))
  (h:wpR P l.toArray Q R fuel (listed.setIfInBounds i true) (a.put l[i].dst v) w):wpR P l.toArray Q R (fuel+1) listed a w :=
 wpAnyH_take (i:=i) (oi:=l[i]) (by simp [hlt]) hs hf hr hQ hy (M.refl w) h
theorem jC (i:Nat) {fuel:Nat} {listed:Array Bool} {a:Act} {w:World} (M:Yx R) (hlt:i<l.length) (hr:Region.ready .any l.toArray listed=[i])
  (hw:Region.wanted l[i] (yielded l.toArray a.tmps)=true)
  (h:l[i].wp P a w (fun a' w'=>R w w'∧wpR P l.toArray Q R fuel (listed.setIfInBounds i true) a' w') Q):wpR P l.toArray Q R (fuel+1) listed a w:=by
 refine ⟨fun h0=>absurd (hr ▸ h0) (by simp),fun j hj=>?_⟩
 rw [hr,List.mem_singleton] at hj
 subst hj
 unfold wpOp
 have hi:l.toArray[j]?=some l[j]:=by simp [hlt]
 simp only [hi,hw,if_true]
 exact .inl (Oper.wp_mono (fun a' w' h'=>⟨h'.1,Jy (fun w2 h2=>M.trans _ _ _ h'.1 h2) _ _ _ _ h'.2⟩) h)
theorem jK (i:Nat) {f:FuncId} {vals:Array Value} {fuel:Nat} {listed:Array Bool} {a:Act} {w:World} (M:Yx R) (hlt:i<l.length) (hr:Region.ready .any l.toArray listed=[i])
  (hw:Region.wanted l[i] (yielded l.toArray a.tmps)=true)
  (h:Calls P f vals w fun e w'=>∃ v,e= .returned v∧R w w'∧wpR P l.toArray Q R fuel (listed.setIfInBounds i true) (a.put l[i].dst v) w')
  (hrun:∀ w,(execOp a.eval l[i]).run P w= .ok (.enter f vals) w):wpR P l.toArray Q R (fuel+1) listed a w:=by
 refine jC i M hlt hr hw ?_
 unfold Oper.wp
 rw [hrun w]
 refine Calls.mono h ?_
 rintro e w' ⟨v,rfl,h1,h2⟩
 exact ⟨h1,h2⟩
end
section
variable {P:Program} {l:List Oper} {Q:Exit→Act→World→Prop} {R:World→World→Prop}
def wpS (P:Program) (l:List Oper) (Q:Exit→Act→World→Prop) (R:World→World→Prop) (i:Nat) (fuel:Nat) (listed:Array Bool) (a:Act) (w:World):Prop :=
 ∃ (h:i<l.length),Region.wanted l[i] (yielded l.toArray a.tmps)=true∧l[i].wp P a w (fun a' w'=>R w w'∧wpR P l.toArray Q R fuel (listed.setIfInBounds i true) a' w') Q
theorem wpS_op {i fuel:Nat} {listed:Array Bool} {a:Act} {w:World} (M:Yx R) (h:wpS P l Q R i fuel listed a w):wpOp P l.toArray Q i (fun a' w'=>R w w'∧wpAnyH P .any l.toArray Q (R w) fuel (listed.setIfInBounds i true) a' w') a w:=by
 obtain ⟨hlt,hw,h⟩:=h
 unfold wpOp
 have hi:l.toArray[i]?=some l[i]:=by simp [hlt]
 simp only [hi,hw,if_true]
 exact .inl (Oper.wp_mono (fun a' w' h'=>⟨h'.1,Jy (fun w2 h2=>M.trans _ _ _ h'.1 h2) _ _ _ _ h'.2⟩) h)
theorem zCm {i:Nat} {f:FuncId} {vals:Array Value} {fuel:Nat} {listed:Array Bool} {a:Act} {w:World} (hlt:i<l.length) (hw:Region.wanted l[i] (yielded l.toArray a.tmps)=true)
  (h:Calls P f vals w fun e w'=>∃ v,e= .returned v∧R w w'∧wpR P l.toArray Q R fuel (listed.setIfInBounds i true) (a.put l[i].dst v) w')
  (hrun:∀ w,(execOp a.eval l[i]).run P w= .ok (.enter f vals) w):wpS P l Q R i fuel listed a w:=by
 refine ⟨hlt,hw,?_⟩
 unfold Oper.wp
 rw [hrun w]
 refine Calls.mono h ?_
 rintro e w' ⟨v,rfl,h1,h2⟩
 exact ⟨h1,h2⟩
end
theorem Xr {P:Program} {o:Oper} {ops:Array Oper} {a:Act} {v:Value} {R:World→World→Prop} {w:World} (hw:Region.wanted o (yielded ops a.tmps)=true) (h:∀ w',R w w'→(execOp a.eval o).run P w'= .ok (.value v) w') :
  (Region.wanted o (yielded ops a.tmps)=true∧∀ w',R w w'→(execOp a.eval o).run P w'= .ok (.value v) w')∨(Region.wanted o (yielded ops a.tmps)=false∧v=undef):=.inl ⟨hw,h⟩
theorem kE {P:Program} {w:World} {t e:TypeId} {size bytes:Nat} {z:Value} (E:JG P t e size bytes z) (A:Option Addr) (n c h:Nat) (hc:h≤c) :
  (Instr.slice t (.slice A n c) none (some (.int .i64 (h:Int))) none).run P w= .ok (.slice A h c) w:=by
 obtain ⟨ht,⟨i,hi,hz,hs,hby⟩,hzs,hsz⟩:=E
 have he:P.elem t=e:=by simp [Program.elem,ht]
 rw [run_slice_h (P:=P) w t A n c (by rw [he];exact ht) .i64 (h:Int) (by omega) (by omega),he]
 cases A <;> simp [sizeOf,typeInfo,hi,sliced,Result.andThen,Addr.add]
def KQ (l:List Oper) (hs:List Nat):List Nat→Array Bool→Bool
 | [],listed=>(Region.ready .any l.toArray listed).isEmpty
 | i :: rest,listed=>decide (i<l.length)&&Region.free .any l.toArray listed i&&(Region.ready .any l.toArray listed).contains i &&
   (!hs.contains i||Region.ready .any l.toArray listed == [i])&&KQ l hs rest (listed.setIfInBounds i true)
def wpO (P:Program) (l:List Oper) (hs:List Nat) (Q:Exit→Act→World→Prop) (R:World→World→Prop) (order:List Nat) (listed:Array Bool) (a:Act) (w:World):Prop :=
 Region.noSelect l.toArray=true→KQ l hs order listed=true→wpR P l.toArray Q R order.length listed a w
section
variable {P:Program} {l:List Oper} {hs:List Nat} {Q:Exit→Act→World→Prop} {R:World→World→Prop} {rest:List Nat} {i:Nat} {o:Oper} {listed:Array Bool} {a:Act} {w:World}
theorem Zx {id:Nat} (R:World→World→Prop) (hs order:List Nat) (hm:P.follows .mixedOrders=true) (hok:(Region.noSelect l.toArray&&order.length == l.length&&KQ l hs order (List.replicate l.length false).toArray)=true)
  (h:wpO P l hs Q R order (List.replicate l.length false).toArray a w.drew):(Code.region id l.toArray true).wp P Q a w:=by
 simp only [Bool.and_eq_true,beq_iff_eq] at hok
 refine Jp R hm ?_
 rw [←hok.1.2]
 have:=h hok.1.1 hok.2
 rwa [hok.1.2] at this ⊢
theorem Yt (M:Yx R) {order:List Nat} (h:∀ W,R w W→wpO P l hs Q R order listed a W):wpO P l hs Q R order listed a w:=h w (M.refl w)
theorem Zt (h:Q .normal a w):wpO P l hs Q R [] listed a w:=fun _ hok=>GY (by simpa [KQ] using hok) h
theorem JI (h:KQ l hs (i :: rest) listed=true):i<l.length∧Region.free .any l.toArray listed i=true∧(Region.ready .any l.toArray listed).contains i=true ∧
  (hs.contains i=true→Region.ready .any l.toArray listed=[i])∧KQ l hs rest (listed.setIfInBounds i true)=true:=by
 unfold KQ at h
 simp only [Bool.and_eq_true,Bool.or_eq_true,Bool.not_eq_true',decide_eq_true_eq,beq_iff_eq] at h
 obtain ⟨⟨⟨⟨h1,h2⟩,h3⟩,h4⟩,h5⟩:=h
 refine ⟨h1,h2,h3,fun h6=>?_,h5⟩
 rcases h4 with h4 | h4
 ·rw [h6] at h4;cases h4
 ·exact h4
theorem Ux {h:i<l.length} (ho:l[i]?=some o):l[i]=o:=by
 rw [List.getElem?_eq_getElem h] at ho
 injection ho
theorem Ze {v:Value} (M:Yx R) (ho:l[i]?=some o) (hw:Region.wanted o (yielded l.toArray a.tmps)=true) (hQ:∀ c a w,Q (.panic c) (a.put o.dst v) w→Q (.panic c) a w)
  (hrun:∀ w',R w w'→(execOp a.eval o).run P w'= .ok (.value v) w') (h:wpO P l hs Q R rest (listed.setIfInBounds i true) (a.put o.dst v) w):wpO P l hs Q R (i :: rest) listed a w:=by
 intro hn hok
 obtain ⟨h1,h2,h3,-,h5⟩:=JI hok
 have e:=Ux (h:=h1) ho
 subst e
 exact YA i M h1 hn h2 h3 hQ (.inl ⟨hw,hrun⟩) (h hn h5)
theorem Zh (M:Yx R) (ho:l[i]?=some o) (hw:Region.wanted o (yielded l.toArray a.tmps)=false) (hQ:∀ c a w,Q (.panic c) (a.put o.dst undef) w→Q (.panic c) a w)
  (h:wpO P l hs Q R rest (listed.setIfInBounds i true) (a.put o.dst undef) w):wpO P l hs Q R (i :: rest) listed a w:=by
 intro hn hok
 obtain ⟨h1,h2,h3,-,h5⟩:=JI hok
 have e:=Ux (h:=h1) ho
 subst e
 exact YA i M h1 hn h2 h3 hQ (.inr ⟨hw,rfl⟩) (h hn h5)
theorem Zs (M:Yx R) (hh:hs.contains i=true) (ho:l[i]?=some o) (hw:Region.wanted o (yielded l.toArray a.tmps)=true)
  (h:o.wp P a w (fun a' w'=>R w w'∧wpO P l hs Q R rest (listed.setIfInBounds i true) a' w') Q):wpO P l hs Q R (i :: rest) listed a w:=by
 intro hn hok
 obtain ⟨h1,-,-,h4,h5⟩:=JI hok
 have e:=Ux (h:=h1) ho
 subst e
 exact jC i M h1 (h4 hh) hw (Oper.wp_mono (fun a' w' h'=>⟨h'.1,h'.2 hn h5⟩) h)
theorem ZX {f:FuncId} {vals:Array Value} (M:Yx R) (hh:hs.contains i=true) (ho:l[i]?=some o) (hw:Region.wanted o (yielded l.toArray a.tmps)=true)
  (hrun:∀ w,(execOp a.eval o).run P w= .ok (.enter f vals) w)
  (h:Calls P f vals w fun e w'=>∃ v,e= .returned v∧R w w'∧wpO P l hs Q R rest (listed.setIfInBounds i true) (a.put o.dst v) w'):wpO P l hs Q R (i :: rest) listed a w:=by
 refine Zs M hh ho hw ?_
 unfold Oper.wp
 rw [hrun w]
 refine Calls.mono h ?_
 rintro e w' ⟨v,rfl,h1,h2⟩
 exact ⟨h1,h2⟩
end
theorem Zd {w w':World} (h:Yj w.drew w'):∀ b o,b<w.heap.size→w'.cell? ⟨b,o,none⟩=w.cell? ⟨b,o,none⟩:=fun b o hb=>Below.cell h (p:=⟨b,o,none⟩) hb
theorem G6 {g:Nat} {w w':World} (h:Vg g w w'):∀ b o,b<w.heap.size→b≠g→w'.cell? ⟨b,o,none⟩=w.cell? ⟨b,o,none⟩:=fun b o hb hne=>by
 have:=h.block b hb (fun e=>hne (by injection e))
 simp only [World.cell?,this]
theorem ZI {g:Nat} {w w':World} (h:Vg g w.drew w'):∀ b o,b<w.heap.size→b≠g→w'.cell? ⟨b,o,none⟩=w.cell? ⟨b,o,none⟩:=fun b o hb hne=>G6 h b o hb hne
def UY (g i:Nat) (w w':World):Prop:=w.grownBy w' (some g)∧∀ t cs,Blk w g t cs→∃ v,Blk w' g t (cs.setIfInBounds i v)
theorem Zf (g i:Nat):Yx (UY g i):=by
 refine ⟨fun w=>⟨ZO w _,fun t cs h=>⟨cs.getD i undef,?_⟩⟩,fun a b c h k=>⟨JB h.1 k.1 fun _ e=>.inl e,fun t cs hb=>?_⟩⟩
 ·have e:cs.setIfInBounds i (cs.getD i undef)=cs:=by
   apply Array.ext
   ·simp
   ·intro j h1 h2
    rw [Array.getElem_setIfInBounds]
    ·split
     ·subst_vars
      simp [h2]
     ·rfl
  rw [e]
  exact h
 ·obtain ⟨v,hv⟩:=h.2 t cs hb
  obtain ⟨u,hu⟩:=k.2 t _ hv
  exact ⟨u,by simpa using hu⟩
theorem Xx {g i:Nat} (w:World) (v:Value):UY g i w (w.setCell ⟨g,i,none⟩ v):=⟨ZF (p:=⟨g,i,none⟩) (ZO w _) (.inl rfl) v,fun _ _ hb=>⟨v,hb.set_ i v⟩⟩
theorem YQ {g i:Nat} {w w':World} (h:UY g i w.drew w'):∀ b o,b<w.heap.size→b≠g→w'.cell? ⟨b,o,none⟩=w.cell? ⟨b,o,none⟩:=fun b o hb hne=>G6 (w:=w.drew) h.1 b o hb hne
theorem Xw {g i:Nat} {w w':World} {t:TypeId} {cs:Array Value} (h:UY g i w.drew w') (k:Blk w g t cs):∀ j,j≠i→w'.cell? ⟨g,j,none⟩=cs[j]?:=fun j hj=>by
 obtain ⟨v,hv⟩:=h.2 t cs k
 rw [hv.cell j,Array.getElem?_setIfInBounds,if_neg (fun e=>hj e.symm)]
def YK (bars:List Nat) (listed:Array Bool):Bool:=bars.any fun b=>listed.getD b true
theorem Vy {bars:List Nat} {listed:Array Bool} {j:Nat} (h:j ∉ bars):YK bars (listed.setIfInBounds j true)=YK bars listed:=by
 unfold YK
 induction bars with
 | nil=>rfl
 | cons b r ih =>
  simp only [List.mem_cons,not_or] at h
  simp only [List.any_cons]
  rw [getD_set_ne true h.1,ih h.2]
section
variable {P:Program} {ops:Array Oper} {Q:Exit→Act→World→Prop} {bars:List Nat} {S:World→Prop}
def UF (P:Program) (ops:Array Oper) (Q:Exit→Act→World→Prop) (bars:List Nat) (S:World→Prop):Nat→Array Bool→Act→World→Prop
 | 0,listed,a,w=>Region.ready .any ops listed=[]∧Q .normal a w
 | fuel+1,listed,a,w =>
  (Region.ready .any ops listed=[]→Q .normal a w) ∧
  ∀ i∈Region.ready .any ops listed,wpOp P ops Q i (fun a' w'=>(YK bars (listed.setIfInBounds i true)=false→S w')∧UF P ops Q bars S fuel (listed.setIfInBounds i true) a' w') a w
theorem JL:∀ (fuel:Nat) (listed:Array Bool) (a:Act) (w:World),UF P ops Q bars S fuel listed a w→wpAny P .any ops Q fuel listed a w
 | 0,_,_,_,h=>h
 | fuel+1,_,_,_,h=>⟨h.1,fun i hi=>wpOp_mono (fun a' w' h'=>JL fuel _ a' w' h'.2) (h.2 i hi)⟩
theorem JM {S':World→Prop} (hS:∀ w,S' w→S w):∀ (fuel:Nat) (listed:Array Bool) (a:Act) (w:World),UF P ops Q bars S' fuel listed a w→UF P ops Q bars S fuel listed a w
 | 0,_,_,_,h=>h
 | fuel+1,_,_,_,h=>⟨h.1,fun i hi=>wpOp_mono (fun a' w' h'=>⟨fun hp=>hS _ (h'.1 hp),JM hS fuel _ a' w' h'.2⟩) (h.2 i hi)⟩
theorem Uv {listed:Array Bool} {i:Nat} (h:YK bars listed=true):YK bars (listed.setIfInBounds i true)=true:=by
 unfold YK at *
 rw [List.any_eq_true] at *
 obtain ⟨b,hb,h1⟩:=h
 refine ⟨b,hb,?_⟩
 by_cases e:i=b
 ·subst e
  rcases Nat.lt_or_ge i listed.size with h2 | h2
  ·simp [h2]
  ·simp [Nat.not_lt.2 h2]
 ·rw [getD_set_ne true e];exact h1
theorem UT {S':World→Prop}:∀ (fuel:Nat) (listed:Array Bool) (a:Act) (w:World),YK bars listed=true→UF P ops Q bars S' fuel listed a w→UF P ops Q bars S fuel listed a w
 | 0,_,_,_,_,h=>h
 | fuel+1,_,_,_,hp,h=>⟨h.1,fun i hi=>wpOp_mono (fun a' w' h'=>⟨fun hp'=>(by rw [Uv hp] at hp';cases hp'),UT fuel _ a' w' (Uv hp) h'.2⟩) (h.2 i hi)⟩
theorem Xc {T:World→Prop} {i:Nat} {oi:Oper} {v:Value} (hi:ops[i]?=some oi) (hsel:∀ (j:Nat) (o:Oper) cs b,ops[j]?=some o→o.op≠.select cs b)
  (hQ:∀ c a w,Q (.panic c) (a.put oi.dst v) w→Q (.panic c) a w) (hib:i ∉ bars)
  (hT:(∀ w,T w)∨((∀ w,S w→T w)∧∀ b∈bars,∀ ob,ops[b]?=some ob→∃ e∈ob.after,Region.binds .any e=true∧e.on=i)) :
  ∀ (fuel:Nat) (listed:Array Bool) (a:Act) (w:World),((∀ w,T w)∨YK bars listed=false) →
   (∀ j oj,ops[j]?=some oj→j≠i→listed.getD j true=false→(∀ e∈oj.after,Region.binds .any e=true→e.on≠i)→oi.apart ops oj=true) →
   i∈Region.ready .any ops listed→YieldsIf P ops T oi v a→T w→(YK bars listed=false→S w) →
   UF P ops Q bars S fuel (listed.setIfInBounds i true) (a.put oi.dst v) w→UF P ops Q bars S (fuel+1) listed a w:=by
 intro fuel
 induction fuel with
 | zero =>
  intro listed a w hpl _ hr hy hTw hS H
  refine ⟨fun h=>(by rw [h] at hr;cases hr),fun j hj=>?_⟩
  by_cases hji:j=i
  ·subst hji;exact hy.wpOp hi hTw ⟨fun hp=>hS (by rwa [Vy hib] at hp),H⟩
  ·have:=ready_mono hj hji
   rw [H.1] at this
   cases this
 | succ fuel ih =>
  intro listed a w hpl hfree hr hy hTw hS H
  refine ⟨fun h=>(by rw [h] at hr;cases hr),fun j hj=>?_⟩
  by_cases hji:j=i
  ·subst hji;exact hy.wpOp hi hTw ⟨fun hp=>hS (by rwa [Vy hib] at hp),H⟩
  ·have h1:=H.2 j (ready_mono hj hji)
   obtain ⟨hjun,oj,hoj,hall⟩:=mem_ready.1 hj
   have hnot:∀ e∈oj.after,Region.binds .any e=true→e.on≠i:=fun e he hb heq=>by
    have h1:=hall e he hb
    have h0:=(mem_ready.1 hr).1
    rw [heq] at h1
    rcases Nat.lt_or_ge i listed.size with h' | h'
    ·simp [h'] at h0 h1;rw [h0] at h1;cases h1
    ·simp [Array.getElem?_eq_none h'] at h1
   have h2:=wpOp_putIf hoj (hfree j oj hoj hji hjun hnot) (fun cs b=>hsel i oi cs b hi) (fun cs b=>hsel j oj cs b hoj) hQ hy h1
   have hfree':∀ k ok,ops[k]?=some ok→k≠i→(listed.setIfInBounds j true).getD k true=false →
     (∀ e∈ok.after,Region.binds .any e=true→e.on≠i)→oi.apart ops ok=true:=fun k ok hk hki hun hno=>by
    refine hfree k ok hk hki ?_ hno
    by_cases hjk:j=k
    ·subst hjk;exact hjun
    ·rw [getD_set_ne true hjk] at hun;exact hun
   have hpe:YK bars ((listed.setIfInBounds i true).setIfInBounds j true)=YK bars (listed.setIfInBounds j true):=by
    rw [Array.setIfInBounds_comm _ _ (Ne.symm hji),Vy hib]
   refine wpOp_mono (fun a' w' h3=>?_) h2
   have hS':YK bars (listed.setIfInBounds j true)=false→S w':=fun hp=>h3.2.1 (by rw [hpe];exact hp)
   have hboth:((∀ w,T w)∨YK bars (listed.setIfInBounds j true)=false)∧T w':=by
    rcases hT with hT | ⟨hST,hbar⟩
    ·exact ⟨.inl hT,hT w'⟩
    ·rcases hpl with hpl | hpl
     ·exact ⟨.inl hpl,hpl w'⟩
     ·have hjb:j ∉ bars:=fun hb=>by
       obtain ⟨e,he,hbi,hei⟩:=hbar j hb oj hoj
       exact hnot e he hbi hei
      have hp':YK bars (listed.setIfInBounds j true)=false:=by rw [Vy hjb];exact hpl
      exact ⟨.inr hp',hST _ (hS' hp')⟩
   refine ⟨hS',ih (listed.setIfInBounds j true) a' w' hboth.1 hfree' (ready_mono hr (Ne.symm hji)) h3.1 hboth.2 hS' ?_⟩
   rw [Array.setIfInBounds_comm _ _ hji]
   exact h3.2.2
end
def wpB (P:Program) (ops:Array Oper) (Q:Exit→Act→World→Prop) (bars:List Nat) (R:World→World→Prop) (fuel:Nat) (listed:Array Bool) (a:Act) (w:World):Prop :=
 UF P ops Q bars (R w) fuel listed a w
def yw (l:List Oper) (b i:Nat):Bool:=match l[b]? with | some o=>o.after.any fun e=>Region.binds .any e&&e.on == i | none=>true
def VT (l:List Oper) (hs bars:List Nat):List Nat→Array Bool→Bool
 | [],listed=>(Region.ready .any l.toArray listed).isEmpty
 | i :: rest,listed=>decide (i<l.length)&&(Region.ready .any l.toArray listed).contains i &&
   (if hs.contains i then Region.ready .any l.toArray listed == [i] else Region.free .any l.toArray listed i&&!bars.contains i&&(YK bars listed||bars.all fun b=>yw l b i))&&VT l hs bars rest (listed.setIfInBounds i true)
def wpV (P:Program) (l:List Oper) (hs bars:List Nat) (Q:Exit→Act→World→Prop) (R:World→World→Prop) (order:List Nat) (listed:Array Bool) (a:Act) (w:World):Prop :=
 Region.noSelect l.toArray=true→VT l hs bars order listed=true→wpB P l.toArray Q bars R order.length listed a w
section
variable {P:Program} {l:List Oper} {hs bars:List Nat} {Q:Exit→Act→World→Prop} {R:World→World→Prop} {rest:List Nat} {i:Nat} {o:Oper} {listed:Array Bool} {a:Act} {w:World}
theorem zW {id:Nat} (R:World→World→Prop) (hs bars order:List Nat) (hm:P.follows .mixedOrders=true) (hok:(Region.noSelect l.toArray&&order.length == l.length&&VT l hs bars order (List.replicate l.length false).toArray)=true)
  (h:wpV P l hs bars Q R order (List.replicate l.length false).toArray a w.drew):(Code.region id l.toArray true).wp P Q a w:=by
 simp only [Bool.and_eq_true,beq_iff_eq] at hok
 refine wp_region_any hm (JL (bars:=bars) (S:=R w.drew) _ _ _ _ ?_)
 have h2:=h hok.1.1 hok.2
 have e:Array.replicate l.toArray.size false=(List.replicate l.length false).toArray:=by simp
 rw [hok.1.2] at h2
 rw [e]
 simpa [wpB] using h2
theorem GF (M:Yx R) {order:List Nat} (h:∀ W,Hid (W=w)→R w W→wpV P l hs bars Q R order listed a W):wpV P l hs bars Q R order listed a w:=h w rfl (M.refl w)
theorem xU (h:Q .normal a w):wpV P l hs bars Q R [] listed a w:=fun _ hok=>⟨by simpa [VT] using hok,h⟩
theorem XW (h:VT l hs bars (i :: rest) listed=true):i<l.length∧(Region.ready .any l.toArray listed).contains i=true ∧
  (hs.contains i=true→Region.ready .any l.toArray listed=[i]) ∧
  (hs.contains i=false→Region.free .any l.toArray listed i=true∧i ∉ bars∧(YK bars listed=true∨∀ b∈bars,yw l b i=true))∧VT l hs bars rest (listed.setIfInBounds i true)=true:=by
 unfold VT at h
 simp only [Bool.and_eq_true,decide_eq_true_eq] at h
 obtain ⟨⟨⟨h1,h2⟩,h3⟩,h4⟩:=h
 refine ⟨h1,h2,fun h6=>?_,fun h6=>?_,h4⟩
 ·rw [if_pos h6] at h3
  simpa using h3
 ·rw [if_neg (by rw [h6];exact Bool.noConfusion)] at h3
  simp only [Bool.and_eq_true,Bool.not_eq_true',Bool.or_eq_true,List.all_eq_true] at h3
  refine ⟨h3.1.1,fun hm=>?_,h3.2⟩
  have:=h3.1.2
  simp [hm] at this
theorem JC {b:Nat} {ob:Oper} (hb:l.toArray[b]?=some ob) (h:yw l b i=true):∃ e∈ob.after,Region.binds .any e=true∧e.on=i:=by
 unfold yw at h
 rw [List.getElem?_toArray] at hb
 rw [hb] at h
 simp only [Array.any_eq_true] at h
 obtain ⟨k,hk,he⟩:=h
 simp only [Bool.and_eq_true,beq_iff_eq] at he
 exact ⟨ob.after[k],Array.getElem_mem hk,he.1,he.2⟩
theorem VL {v:Value} (M:Yx R) (hh:hs.contains i=false) (ho:l[i]?=some o) (hw:Region.wanted o (yielded l.toArray a.tmps)=true) (hQ:∀ c a w,Q (.panic c) (a.put o.dst v) w→Q (.panic c) a w)
  (hrun:∀ w',(YK bars listed=false→R w w')→(execOp a.eval o).run P w'= .ok (.value v) w') (h:wpV P l hs bars Q R rest (listed.setIfInBounds i true) (a.put o.dst v) w):wpV P l hs bars Q R (i :: rest) listed a w:=by
 intro hn hok
 obtain ⟨h1,h2,-,h4,h5⟩:=XW hok
 obtain ⟨f1,f2,f3⟩:=h4 hh
 have hoa:l.toArray[i]?=some o:=by rw [List.getElem?_toArray];exact ho
 cases hp:YK bars listed
 ·refine Xc (T:=R w) hoa (Region.noSelect_spec hn) hQ f2 (.inr ⟨fun _ h=>h,fun b hb ob hob=>JC hob ?_⟩) _ _ _ _ (.inr hp) (Region.free_spec hoa f1) (by simpa using h2) (.inl ⟨hw,fun w' hR=>hrun w' fun _=>hR⟩) (M.refl w) (fun _=>M.refl w) (h hn h5)
  rcases f3 with f3 | f3
  ·rw [hp] at f3;cases f3
  ·exact f3 b hb
 ·exact Xc (T:=fun _=>True) hoa (Region.noSelect_spec hn) hQ f2 (.inl fun _=>trivial) _ _ _ _ (.inl fun _=>trivial) (Region.free_spec hoa f1) (by simpa using h2) (.inl ⟨hw,fun w' _=>hrun w' fun h=>by rw [hp] at h;cases h⟩) trivial (fun _=>M.refl w) (h hn h5)
theorem Ui (M:Yx R) (hh:hs.contains i=false) (ho:l[i]?=some o) (hw:Region.wanted o (yielded l.toArray a.tmps)=false) (hQ:∀ c a w,Q (.panic c) (a.put o.dst undef) w→Q (.panic c) a w)
  (h:wpV P l hs bars Q R rest (listed.setIfInBounds i true) (a.put o.dst undef) w):wpV P l hs bars Q R (i :: rest) listed a w:=by
 intro hn hok
 obtain ⟨h1,h2,-,h4,h5⟩:=XW hok
 obtain ⟨f1,f2,f3⟩:=h4 hh
 have hoa:l.toArray[i]?=some o:=by rw [List.getElem?_toArray];exact ho
 exact Xc (T:=fun _=>True) hoa (Region.noSelect_spec hn) hQ f2 (.inl fun _=>trivial) _ _ _ _ (.inl fun _=>trivial) (Region.free_spec hoa f1) (by simpa using h2) (.inr ⟨hw,rfl⟩) trivial (fun _=>M.refl w) (h hn h5)
theorem VJ (M:Yx R) (hh:hs.contains i=true) (ho:l[i]?=some o) (hw:Region.wanted o (yielded l.toArray a.tmps)=true)
  (h:o.wp P a w (fun a' w'=>(YK bars (listed.setIfInBounds i true)=false→R w w')∧wpV P l hs bars Q R rest (listed.setIfInBounds i true) a' w') Q):wpV P l hs bars Q R (i :: rest) listed a w:=by
 intro hn hok
 obtain ⟨h1,h2,h3,-,h5⟩:=XW hok
 have hr:=h3 hh
 refine ⟨fun h0=>absurd (hr ▸ h0) (by simp),fun j hj=>?_⟩
 rw [hr,List.mem_singleton] at hj
 subst hj
 unfold wpOp
 have hi:l.toArray[j]?=some o:=by rw [List.getElem?_toArray];exact ho
 simp only [hi,hw,if_true]
 refine .inl (Oper.wp_mono (fun a' w' h'=>⟨h'.1,?_⟩) h)
 have hk:=h'.2 hn h5
 cases hp:YK bars (listed.setIfInBounds j true)
 ·exact JM (fun w2 h2=>M.trans _ _ _ (h'.1 hp) h2) _ _ _ _ hk
 ·exact UT _ _ _ _ hp hk
theorem zA {f:FuncId} {vals:Array Value} (M:Yx R) (hh:hs.contains i=true) (ho:l[i]?=some o) (hw:Region.wanted o (yielded l.toArray a.tmps)=true)
  (hrun:∀ w,(execOp a.eval o).run P w= .ok (.enter f vals) w)
  (h:Calls P f vals w fun e w'=>∃ v,e= .returned v∧(YK bars (listed.setIfInBounds i true)=false→R w w')∧wpV P l hs bars Q R rest (listed.setIfInBounds i true) (a.put o.dst v) w'):wpV P l hs bars Q R (i :: rest) listed a w:=by
 refine VJ M hh ho hw ?_
 unfold Oper.wp
 rw [hrun w]
 refine Calls.mono h ?_
 rintro e w' ⟨v,rfl,h1,h2⟩
 exact ⟨h1,h2⟩
end
theorem XH {B:Nat} {w0 w1 w2:World} (h1:Below B w0 w1) (h2:Below w1.heap.size w1 w2) (hB:B≤w1.heap.size:=by omega):Below B w0 w2:=h1.trans (h2.mono hB)
theorem G1 {w w':World} {p:Addr} {v:Value} (h:Below w.drew.heap.size w.drew w') (hc:w.cell? p=some v):w'.cell? p=some v:=(Below.cell h (World.block_lt_of_cell? _ _ hc)).trans hc
theorem Xn (w:World) (t1 t2:TypeId) (cs1 cs2:Array Value) :
  Blk ((w.alloc (.cells cs1 t1)).alloc (.cells cs2 t2)) w.heap.size t1 cs1∧Blk ((w.alloc (.cells cs1 t1)).alloc (.cells cs2 t2)) (w.heap.size+1) t2 cs2∧Below w.heap.size w ((w.alloc (.cells cs1 t1)).alloc (.cells cs2 t2))∧((w.alloc (.cells cs1 t1)).alloc (.cells cs2 t2)).heap.size=w.heap.size+2:=by
 refine ⟨(Blk.new w t1 cs1).alloc _,?_,((Below.refl _ w).alloc (Nat.le_refl _) _).alloc (by simp) _,by simp⟩
 have:=Blk.new (w.alloc (.cells cs1 t1)) t2 cs2
 simpa using this
theorem Ks (w:World) (t1 t2 t3:TypeId) (cs1 cs2 cs3:Array Value) :
  Blk (((w.alloc (.cells cs1 t1)).alloc (.cells cs2 t2)).alloc (.cells cs3 t3)) w.heap.size t1 cs1∧Blk (((w.alloc (.cells cs1 t1)).alloc (.cells cs2 t2)).alloc (.cells cs3 t3)) (w.heap.size+1) t2 cs2∧Blk (((w.alloc (.cells cs1 t1)).alloc (.cells cs2 t2)).alloc (.cells cs3 t3)) (w.heap.size+1+1) t3 cs3 ∧
   Below w.heap.size w (((w.alloc (.cells cs1 t1)).alloc (.cells cs2 t2)).alloc (.cells cs3 t3))∧(((w.alloc (.cells cs1 t1)).alloc (.cells cs2 t2)).alloc (.cells cs3 t3)).heap.size=w.heap.size+3:=by
 obtain ⟨h1,h2,h3,h4⟩:=Xn w t1 t2 cs1 cs2
 refine ⟨h1.alloc _,h2.alloc _,?_,h3.alloc h3.size _,by simp⟩
 have:=Blk.new ((w.alloc (.cells cs1 t1)).alloc (.cells cs2 t2)) t3 cs3
 rwa [h4] at this
theorem YS {w:World} {g:Nat} {t:TypeId} {y0 y1 y2:Value} (k:Blk w g t #[y0,y1,y2]) (x0 x1 x2:Value):Blk (((w.setCell ⟨g,0,none⟩ x0).setCell ⟨g,1,none⟩ x1).setCell ⟨g,2,none⟩ x2) g t #[x0,x1,x2]:=by
 have h:=(((k.set_ 0 x0).set_ 1 x1).set_ 2 x2)
 simpa using h
theorem Yh {w:World} {g:Nat} (x0 x1 x2:Value):w.grownBy (((w.setCell ⟨g,0,none⟩ x0).setCell ⟨g,1,none⟩ x1).setCell ⟨g,2,none⟩ x2) (some g):=by
 iterate 3 refine ZF ?_ (.inl rfl) _
 exact ZO w _
theorem Zv {g B:Nat} {a w:World} (h:a.grownBy w (some g)) (hB:B≤a.heap.size) (hg:B≤g):Below B a w:=Ya h B hB fun _ e=>by have:=Option.some.inj e;omega
section
variable {P:Program} {ops:Array Oper} {Q:Exit→Act→World→Prop} {R:World→World→Prop}
def PureRun (P:Program) (R:World→World→Prop) (W:World) (ρ:Operand→Value) (o:Oper) (v:Value):Prop :=
 (∀ w,R W w→(execOp ρ o).run P w= .ok (.value v) w)∨∃ f vals,(∀ w,(execOp ρ o).run P w= .ok (.enter f vals) w)∧∀ w,R W w→Calls P f vals w fun e w'=>e= .returned v∧R w w'
def PureAt (P:Program) (ops:Array Oper) (R:World→World→Prop) (W:World) (o:Oper) (v:Value) (a:Act):Prop :=
 (Region.wanted o (yielded ops a.tmps)=true∧PureRun P R W a.eval o v)∨(Region.wanted o (yielded ops a.tmps)=false∧v=undef)
theorem PureRun.later (M:Yx R) {W W':World} {ρ:Operand→Value} {o:Oper} {v:Value} (h:PureRun P R W ρ o v) (hR:R W W'):PureRun P R W' ρ o v:=by
 rcases h with h | ⟨f,vals,h1,h2⟩
 ·exact .inl fun w hw=>h w (M.trans _ _ _ hR hw)
 ·exact .inr ⟨f,vals,h1,fun w hw=>h2 w (M.trans _ _ _ hR hw)⟩
theorem PureAt.later (M:Yx R) {W W':World} {o:Oper} {v:Value} {a:Act} (h:PureAt P ops R W o v a) (hR:R W W'):PureAt P ops R W' o v a :=
 h.imp (fun h=>⟨h.1,h.2.later M hR⟩) id
theorem PureAt.same {W:World} {o:Oper} {v:Value} {a a':Act} (h:PureAt P ops R W o v a) (he:execOp a'.eval o=execOp a.eval o) (hw:Region.wanted o (yielded ops a'.tmps)=Region.wanted o (yielded ops a.tmps)):PureAt P ops R W o v a':=by
 unfold PureAt PureRun at *
 rw [he,hw]
 exact h
theorem PureAt.op {W w:World} {i:Nat} {o:Oper} {v:Value} {a:Act} {K:Act→World→Prop} (M:Yx R) (hi:ops[i]?=some o) (h:PureAt P ops R W o v a) (hR:R W w) (hK:∀ w',R w w'→K (a.put o.dst v) w'):wpOp P ops Q i K a w:=by
 unfold wpOp
 simp only [hi]
 rcases h with ⟨hw,h | ⟨f,vals,h1,h2⟩⟩ | ⟨hw,rfl⟩
 ·simp only [hw,if_true,Oper.wp,h w hR,Oper.upon]
  exact .inl (hK w (M.refl w))
 ·simp only [hw,if_true,Oper.wp,h1 w,Oper.upon]
  refine .inl (Calls.mono (h2 w hR) ?_)
  rintro e w' ⟨rfl,h3⟩
  exact hK w' h3
 ·simp only [hw,Bool.false_eq_true,if_false]
  exact hK w (M.refl w)
theorem kI {Pi:Act→Prop} {j:Nat} {oi oj:Oper} {v:Value} (hj:ops[j]?=some oj) (hap:oi.apart ops oj=true)
  (hsi:∀ cs b,oi.op≠.select cs b) (hsj:∀ cs b,oj.op≠.select cs b)
  (hPi:∀ a a',Pi a→execOp a'.eval oi=execOp a.eval oi→Region.wanted oi (yielded ops a'.tmps)=Region.wanted oi (yielded ops a.tmps)→Pi a')
  (hQ:∀ c a w,Q (.panic c) (a.put oi.dst v) w→Q (.panic c) a w) {K:Act→World→Prop} {a:Act} {w:World}
  (hy:Pi a) (h:wpOp P ops Q j K (a.put oi.dst v) w):wpOp P ops Q j (fun a' w'=>Pi a'∧K (a'.put oi.dst v) w') a w:=by
 obtain ⟨h1,h2,h3⟩:=Oper.apart_spec hap
 have keep:∀ u,Pi (a.put oj.dst u):=fun u=>hPi a _ hy (execOp_put oi hsi a oj.dst u h3) (wanted_put oi a oj.dst u h3)
 unfold wpOp at *
 simp only [hj] at *
 rw [wanted_put oj a oi.dst v h1] at h
 split
 ·rename_i hw
  simp only [hw,if_true] at h
  rcases h with h | ⟨hasks,hlets⟩
  case inr=>exact .inr ⟨by unfold Oper.asks at *;rw [execOp_put oj hsj a oi.dst v h1] at hasks;exact hasks,hlets⟩
  refine .inl ?_
  unfold Oper.wp at *
  rw [execOp_put oj hsj a oi.dst v h1] at h
  generalize (execOp a.eval oj).run P w=r at *
  rcases r with ⟨n,w'⟩ | ⟨x,w'⟩
  ·cases n <;> simp only [Oper.upon] at h ⊢
   case value u=>exact ⟨keep u,by rw [←Act.put_comm a v u h2];exact h⟩
   case skip=>exact ⟨keep _,by rw [←Act.put_comm a v undef h2];exact h⟩
   case defer d =>
    refine ⟨hPi _ _ (hPi a { a with defers:=d :: a.defers } hy rfl rfl) (execOp_put oi hsi _ oj.dst _ h3) (wanted_put oi _ oj.dst _ h3),?_⟩
    rw [←Act.put_comm _ v undef h2,←Act.put_defers]
    exact h
   case enter f args =>
    refine Calls.mono h fun e w'' he=>?_
    rcases e with u | c | _
    ·exact ⟨keep u,by rw [←Act.put_comm a v u h2];exact he⟩
    ·exact hQ _ _ _ he
    ·exact he
   case row row args=>exact Rows.mono h fun u w'' he=>⟨keep u,by rw [←Act.put_comm a v u h2];exact he⟩
  ·cases x <;> simp only [Oper.upon] at h ⊢
   case panic u=>exact hQ _ _ _ h
 ·rename_i hw
  simp only [hw] at h
  exact ⟨keep _,by rw [←Act.put_comm a v undef h2];exact h⟩
def May (bars:List Nat) (R:World→World→Prop) (listed:Array Bool) (w w1:World):Prop:=if YK bars listed=true then w1=w else R w w1
theorem May.refl (M:Yx R) (bars:List Nat) (listed:Array Bool) (w:World):May bars R listed w w:=by
 unfold May
 split
 ·rfl
 ·exact M.refl w
theorem May.of {bars:List Nat} {listed:Array Bool} {w w1:World} (hp:YK bars listed=false) (h:R w w1):May bars R listed w w1:=by
 unfold May
 rw [if_neg (by rw [hp];exact Bool.noConfusion)]
 exact h
theorem May.out {bars:List Nat} {listed:Array Bool} {w w1:World} (hp:YK bars listed=false) (h:May bars R listed w w1):R w w1:=by
 unfold May at h
 rwa [if_neg (by rw [hp];exact Bool.noConfusion)] at h
theorem May.eq {bars:List Nat} {listed:Array Bool} {w w1:World} (hp:YK bars listed=true) (h:May bars R listed w w1):w1=w:=by
 unfold May at h
 rwa [if_pos hp] at h
def wpG (P:Program) (ops:Array Oper) (Q:Exit→Act→World→Prop) (bars:List Nat) (R:World→World→Prop):Nat→Array Bool→Act→World→Prop
 | 0,listed,a,w=>Region.ready .any ops listed=[]∧∀ w1,May bars R listed w w1→Q .normal a w1
 | fuel+1,listed,a,w=>∀ w1,May bars R listed w w1→(Region.ready .any ops listed=[]→Q .normal a w1) ∧
   ∀ i∈Region.ready .any ops listed,wpOp P ops Q i (fun a' w'=>(YK bars (listed.setIfInBounds i true)=false→R w1 w')∧wpG P ops Q bars R fuel (listed.setIfInBounds i true) a' w') a w1
theorem yg (M:Yx R) {bars:List Nat}:∀ (fuel:Nat) (listed:Array Bool) (a:Act) (w w2:World),YK bars listed=false→R w w2→wpG P ops Q bars R fuel listed a w→wpG P ops Q bars R fuel listed a w2
 | 0,_,_,_,_,hp,hR,h=>⟨h.1,fun w1 h1=>h.2 w1 (.of hp (M.trans _ _ _ hR (h1.out hp)))⟩
 | _+1,_,_,_,_,hp,hR,h=>fun w1 h1=>h w1 (.of hp (M.trans _ _ _ hR (h1.out hp)))
theorem GX (M:Yx R) {bars:List Nat}:∀ (fuel:Nat) (listed:Array Bool) (a:Act) (w:World),wpG P ops Q bars R fuel listed a w→wpAny P .any ops Q fuel listed a w
 | 0,_,_,w,h=>⟨h.1,h.2 w (.refl M _ _ w)⟩
 | fuel+1,_,_,w,h=>⟨(h w (.refl M _ _ w)).1,fun i hi=>wpOp_mono (fun a' w' h'=>GX M fuel _ a' w' h'.2) ((h w (.refl M _ _ w)).2 i hi)⟩
theorem zCb (M:Yx R) {bars:List Nat} {i:Nat} {oi:Oper} {v:Value} (hi:ops[i]?=some oi) (hsel:∀ (j:Nat) (o:Oper) cs b,ops[j]?=some o→o.op≠.select cs b)
  (hQ:∀ c a w,Q (.panic c) (a.put oi.dst v) w→Q (.panic c) a w) (hib:i ∉ bars) (hbar:∀ b∈bars,∀ ob,ops[b]?=some ob→∃ e∈ob.after,Region.binds .any e=true∧e.on=i) :
  ∀ (fuel:Nat) (listed:Array Bool) (a:Act) (w:World),YK bars listed=false →
   (∀ j oj,ops[j]?=some oj→j≠i→listed.getD j true=false→(∀ e∈oj.after,Region.binds .any e=true→e.on≠i)→oi.apart ops oj=true) →
   i∈Region.ready .any ops listed→PureAt P ops R w oi v a→wpG P ops Q bars R fuel (listed.setIfInBounds i true) (a.put oi.dst v) w→wpG P ops Q bars R (fuel+1) listed a w:=by
 intro fuel
 induction fuel with
 | zero =>
  intro listed a w hp _ hr hy H w1 hw1
  have hp':YK bars (listed.setIfInBounds i true)=false:=by rw [Vy hib];exact hp
  have hR1:=hw1.out hp
  refine ⟨fun h=>(by rw [h] at hr;cases hr),fun j hj=>?_⟩
  by_cases hji:j=i
  ·subst hji
   exact hy.op M hi hR1 fun w' h'=>⟨fun _=>h',yg M _ _ _ _ _ hp' (M.trans _ _ _ hR1 h') H⟩
  ·have:=ready_mono hj hji
   rw [H.1] at this
   cases this
 | succ fuel ih =>
  intro listed a w hp hfree hr hy H w1 hw1
  have hp':YK bars (listed.setIfInBounds i true)=false:=by rw [Vy hib];exact hp
  have hR1:=hw1.out hp
  refine ⟨fun h=>(by rw [h] at hr;cases hr),fun j hj=>?_⟩
  by_cases hji:j=i
  ·subst hji
   exact hy.op M hi hR1 fun w' h'=>⟨fun _=>h',yg M _ _ _ _ _ hp' (M.trans _ _ _ hR1 h') H⟩
  ·have h1:=(H w1 (.of hp' hR1)).2 j (ready_mono hj hji)
   obtain ⟨hjun,oj,hoj,hall⟩:=mem_ready.1 hj
   have hnot:∀ e∈oj.after,Region.binds .any e=true→e.on≠i:=fun e he hb heq=>by
    have h1:=hall e he hb
    have h0:=(mem_ready.1 hr).1
    rw [heq] at h1
    rcases Nat.lt_or_ge i listed.size with h' | h'
    ·simp [h'] at h0 h1;rw [h0] at h1;cases h1
    ·simp [Array.getElem?_eq_none h'] at h1
   have hjb:j ∉ bars:=fun hb=>by
    obtain ⟨e,he,hbi,hei⟩:=hbar j hb oj hoj
    exact hnot e he hbi hei
   have hpj:YK bars (listed.setIfInBounds j true)=false:=by rw [Vy hjb];exact hp
   have hpij:YK bars ((listed.setIfInBounds i true).setIfInBounds j true)=false:=by rw [Vy hjb];exact hp'
   have h2:=kI (Pi:=PureAt P ops R w1 oi v) hoj (hfree j oj hoj hji hjun hnot) (fun cs b=>hsel i oi cs b hi) (fun cs b=>hsel j oj cs b hoj) (fun _ _ h he hw=>h.same he hw) hQ (hy.later M hR1) h1
   have hfree':∀ k ok,ops[k]?=some ok→k≠i→(listed.setIfInBounds j true).getD k true=false →
     (∀ e∈ok.after,Region.binds .any e=true→e.on≠i)→oi.apart ops ok=true:=fun k ok hk hki hun hno=>by
    refine hfree k ok hk hki ?_ hno
    by_cases hjk:j=k
    ·subst hjk;exact hjun
    ·rw [getD_set_ne true hjk] at hun;exact hun
   refine wpOp_mono (fun a' w' h3=>?_) h2
   have hRw:=h3.2.1 hpij
   refine ⟨fun _=>hRw,ih (listed.setIfInBounds j true) a' w' hpj hfree' (ready_mono hr (Ne.symm hji)) (h3.1.later M hRw) ?_⟩
   rw [Array.setIfInBounds_comm _ _ hji]
   exact h3.2.2
theorem kS {bars:List Nat} {i:Nat} {oi:Oper} {v:Value} (hi:ops[i]?=some oi) (hsel:∀ (j:Nat) (o:Oper) cs b,ops[j]?=some o→o.op≠.select cs b)
  (hQ:∀ c a w,Q (.panic c) (a.put oi.dst v) w→Q (.panic c) a w) :
  ∀ (fuel:Nat) (listed:Array Bool) (a:Act) (w:World),YK bars listed=true →
   (∀ j oj,ops[j]?=some oj→j≠i→listed.getD j true=false→(∀ e∈oj.after,Region.binds .any e=true→e.on≠i)→oi.apart ops oj=true) →
   i∈Region.ready .any ops listed→YieldsIf P ops (fun _=>True) oi v a→wpG P ops Q bars R fuel (listed.setIfInBounds i true) (a.put oi.dst v) w→wpG P ops Q bars R (fuel+1) listed a w:=by
 intro fuel
 have hno:∀ {listed:Array Bool} {j:Nat} {w w':World},YK bars listed=true→YK bars (listed.setIfInBounds j true)=false→R w w':=fun h h'=>by
  rw [Uv h] at h'
  cases h'
 induction fuel with
 | zero =>
  intro listed a w hp _ hr hy H w1 hw1
  obtain rfl:=hw1.eq hp
  refine ⟨fun h=>(by rw [h] at hr;cases hr),fun j hj=>?_⟩
  by_cases hji:j=i
  ·subst hji
   exact hy.wpOp hi trivial ⟨hno hp,H⟩
  ·have:=ready_mono hj hji
   rw [H.1] at this
   cases this
 | succ fuel ih =>
  intro listed a w hp hfree hr hy H w1 hw1
  obtain rfl:=hw1.eq hp
  refine ⟨fun h=>(by rw [h] at hr;cases hr),fun j hj=>?_⟩
  by_cases hji:j=i
  ·subst hji
   exact hy.wpOp hi trivial ⟨hno hp,H⟩
  ·have h1:=(H w1 (by unfold May;rw [if_pos (Uv hp)])).2 j (ready_mono hj hji)
   obtain ⟨hjun,oj,hoj,hall⟩:=mem_ready.1 hj
   have hnot:∀ e∈oj.after,Region.binds .any e=true→e.on≠i:=fun e he hb heq=>by
    have h1:=hall e he hb
    have h0:=(mem_ready.1 hr).1
    rw [heq] at h1
    rcases Nat.lt_or_ge i listed.size with h' | h'
    ·simp [h'] at h0 h1;rw [h0] at h1;cases h1
    ·simp [Array.getElem?_eq_none h'] at h1
   have h2:=wpOp_putIf hoj (hfree j oj hoj hji hjun hnot) (fun cs b=>hsel i oi cs b hi) (fun cs b=>hsel j oj cs b hoj) hQ hy h1
   have hfree':∀ k ok,ops[k]?=some ok→k≠i→(listed.setIfInBounds j true).getD k true=false →
     (∀ e∈ok.after,Region.binds .any e=true→e.on≠i)→oi.apart ops ok=true:=fun k ok hk hki hun hno=>by
    refine hfree k ok hk hki ?_ hno
    by_cases hjk:j=k
    ·subst hjk;exact hjun
    ·rw [getD_set_ne true hjk] at hun;exact hun
   refine wpOp_mono (fun a' w' h3=>⟨hno hp,ih (listed.setIfInBounds j true) a' w' (Uv hp) hfree' (ready_mono hr (Ne.symm hji)) h3.1 ?_⟩) h2
   rw [Array.setIfInBounds_comm _ _ hji]
   exact h3.2.2
end
def UW (P:Program) (l:List Oper) (hs bars:List Nat) (Q:Exit→Act→World→Prop) (R:World→World→Prop) (order:List Nat) (listed:Array Bool) (a:Act) (w:World):Prop :=
 Region.noSelect l.toArray=true→VT l hs bars order listed=true→wpG P l.toArray Q bars R order.length listed a w
section
variable {P:Program} {l:List Oper} {hs bars:List Nat} {Q:Exit→Act→World→Prop} {R:World→World→Prop} {rest:List Nat} {i:Nat} {o:Oper} {listed:Array Bool} {a:Act} {w:World}
theorem Z8 {id:Nat} (R:World→World→Prop) (M:Yx R) (hs bars order:List Nat) (hm:P.follows .mixedOrders=true) (hok:(Region.noSelect l.toArray&&order.length == l.length&&VT l hs bars order (List.replicate l.length false).toArray)=true)
  (h:UW P l hs bars Q R order (List.replicate l.length false).toArray a w.drew):(Code.region id l.toArray true).wp P Q a w:=by
 simp only [Bool.and_eq_true,beq_iff_eq] at hok
 refine wp_region_any hm (GX (R:=R) (bars:=bars) M _ _ _ _ ?_)
 have h2:=h hok.1.1 hok.2
 have e:Array.replicate l.toArray.size false=(List.replicate l.length false).toArray:=by simp
 rw [hok.1.2] at h2
 rw [e]
 simpa using h2
theorem Z9 (M:Yx R) {order:List Nat} (h:∀ W,R w W→UW P l hs bars Q R order listed a W):UW P l hs bars Q R order listed a w:=h w (M.refl w)
theorem Jk (hp:YK bars listed=false) (h:∀ w1,R w w1→Q .normal a w1):UW P l hs bars Q R [] listed a w:=fun _ hok=>⟨by simpa [VT] using hok,fun w1 h1=>h w1 (h1.out hp)⟩
theorem YB (hp:YK bars listed=true) (h:Q .normal a w):UW P l hs bars Q R [] listed a w:=fun _ hok=>⟨by simpa [VT] using hok,fun w1 h1=>by rw [h1.eq hp];exact h⟩
theorem Kt {v:Value} (M:Yx R) (hh:hs.contains i=false) (hp:YK bars listed=false) (ho:l[i]?=some o) (hQ:∀ c a w,Q (.panic c) (a.put o.dst v) w→Q (.panic c) a w)
  (hpu:PureAt P l.toArray R w o v a) (h:UW P l hs bars Q R rest (listed.setIfInBounds i true) (a.put o.dst v) w):UW P l hs bars Q R (i :: rest) listed a w:=by
 intro hn hok
 obtain ⟨h1,h2,-,h4,h5⟩:=XW hok
 obtain ⟨f1,f2,f3⟩:=h4 hh
 have hoa:l.toArray[i]?=some o:=by rw [List.getElem?_toArray];exact ho
 refine zCb M hoa (Region.noSelect_spec hn) hQ f2 (fun b hb ob hob=>JC hob ?_) _ _ _ _ hp (Region.free_spec hoa f1) (by simpa using h2) hpu (h hn h5)
 rcases f3 with f3 | f3
 ·rw [hp] at f3;cases f3
 ·exact f3 b hb
theorem Zk {v:Value} (M:Yx R) (hh:hs.contains i=false) (hp:YK bars listed=false) (ho:l[i]?=some o) (hw:Region.wanted o (yielded l.toArray a.tmps)=true) (hQ:∀ c a w,Q (.panic c) (a.put o.dst v) w→Q (.panic c) a w)
  (hrun:∀ w',R w w'→(execOp a.eval o).run P w'= .ok (.value v) w') (h:UW P l hs bars Q R rest (listed.setIfInBounds i true) (a.put o.dst v) w):UW P l hs bars Q R (i :: rest) listed a w :=
 Kt M hh hp ho hQ (.inl ⟨hw, .inl hrun⟩) h
theorem Zr (M:Yx R) (hh:hs.contains i=false) (hp:YK bars listed=false) (ho:l[i]?=some o) (hw:Region.wanted o (yielded l.toArray a.tmps)=false) (hQ:∀ c a w,Q (.panic c) (a.put o.dst undef) w→Q (.panic c) a w)
  (h:UW P l hs bars Q R rest (listed.setIfInBounds i true) (a.put o.dst undef) w):UW P l hs bars Q R (i :: rest) listed a w :=
 Kt M hh hp ho hQ (.inr ⟨hw,rfl⟩) h
theorem ZK {v:Value} {f:FuncId} {vals:Array Value} (M:Yx R) (hh:hs.contains i=false) (hp:YK bars listed=false) (ho:l[i]?=some o) (hw:Region.wanted o (yielded l.toArray a.tmps)=true) (hQ:∀ c a w,Q (.panic c) (a.put o.dst v) w→Q (.panic c) a w)
  (hrun:∀ w,(execOp a.eval o).run P w= .ok (.enter f vals) w) (hc:∀ w',R w w'→Calls P f vals w' fun e w''=>e= .returned v∧R w' w'')
  (h:UW P l hs bars Q R rest (listed.setIfInBounds i true) (a.put o.dst v) w):UW P l hs bars Q R (i :: rest) listed a w :=
 Kt M hh hp ho hQ (.inl ⟨hw, .inr ⟨f,vals,hrun,hc⟩⟩) h
theorem ZE {v:Value} (hh:hs.contains i=false) (hp:YK bars listed=true) (ho:l[i]?=some o) (hw:Region.wanted o (yielded l.toArray a.tmps)=true) (hQ:∀ c a w,Q (.panic c) (a.put o.dst v) w→Q (.panic c) a w)
  (hrun:∀ w',(execOp a.eval o).run P w'= .ok (.value v) w') (h:UW P l hs bars Q R rest (listed.setIfInBounds i true) (a.put o.dst v) w):UW P l hs bars Q R (i :: rest) listed a w:=by
 intro hn hok
 obtain ⟨h1,h2,-,h4,h5⟩:=XW hok
 have hoa:l.toArray[i]?=some o:=by rw [List.getElem?_toArray];exact ho
 exact kS hoa (Region.noSelect_spec hn) hQ _ _ _ _ hp (Region.free_spec hoa (h4 hh).1) (by simpa using h2) (.inl ⟨hw,fun w' _=>hrun w'⟩) (h hn h5)
theorem Yr (hh:hs.contains i=true) (hp:YK bars listed=false) (ho:l[i]?=some o) (hw:Region.wanted o (yielded l.toArray a.tmps)=true)
  (h:∀ w1,R w w1→o.wp P a w1 (fun a' w'=>(YK bars (listed.setIfInBounds i true)=false→R w1 w')∧UW P l hs bars Q R rest (listed.setIfInBounds i true) a' w') Q):UW P l hs bars Q R (i :: rest) listed a w:=by
 intro hn hok
 obtain ⟨h1,-,h3,-,h5⟩:=XW hok
 have hr:=h3 hh
 intro w1 hw1
 refine ⟨fun h0=>absurd (hr ▸ h0) (by simp),fun j hj=>?_⟩
 rw [hr,List.mem_singleton] at hj
 subst hj
 unfold wpOp
 have hi:l.toArray[j]?=some o:=by rw [List.getElem?_toArray];exact ho
 simp only [hi,hw,if_true]
 exact .inl (Oper.wp_mono (fun a' w' h'=>⟨h'.1,h'.2 hn h5⟩) (h w1 (hw1.out hp)))
end
end Go.Proofs.YtdhhdplholkmdaaGreat
