/- A part of the proof. No condition. -/
import Derived.Deep.RegionHeld3
import Derived.Test.YtbiieaiahdihnaaProg
import Derived.Test.YtbiieaiahdihnaaOP1

namespace Go.Proofs.Ytbiieaiahdihnaa
open Go.RowKit
structure ZI (R:World→World→Prop):Prop where
 refl:∀ w,R w w
 trans:∀ a b c,R a b→R b c→R a c
def ZQ (w w':World):Prop:=Below w.heap.size w w'
theorem later_moves:ZI ZQ:=⟨fun w=>Below.refl _ w,fun _ _ _ h k=>Za h k⟩
def GE (g:Nat) (w w':World):Prop:=w.grownBy w' (some g)
theorem ZC (g:Nat):ZI (GE g):=⟨fun w=>Zl w _,fun _ _ _ h k=>UK h k fun _ e=>.inl e⟩
section
variable {P:Program} {ops:Array Oper} {Q:Exit→Act→World→Prop} {R:World→World→Prop}
theorem Vw {S S':World→Prop} (hS:∀ w,S' w→S w):∀ (fuel:Nat) (listed:Array Bool) (a:Act) (w:World),wpAnyH P .any ops Q S' fuel listed a w→wpAnyH P .any ops Q S fuel listed a w
 | 0,_,_,_,h=>h
 | fuel+1,_,_,_,h=>⟨h.1,fun i hi=>wpOp_mono (fun a' w' h'=>⟨hS _ h'.1,Vw hS fuel _ a' w' h'.2⟩) (h.2 i hi)⟩
def wpR (P:Program) (ops:Array Oper) (Q:Exit→Act→World→Prop) (R:World→World→Prop) (fuel:Nat) (listed:Array Bool) (a:Act) (w:World):Prop :=
 wpAnyH P .any ops Q (R w) fuel listed a w
theorem JF {id:Nat} {a:Act} {w:World} {l:List Oper} (R:World→World→Prop) (hm:P.follows .mixedOrders=true) (h:wpR P l.toArray Q R l.length (List.replicate l.length false).toArray a w.drew):(Code.region id l.toArray true).wp P Q a w:=by
 refine wp_region_held (S:=R w.drew) hm ?_
 have e:Array.replicate l.toArray.size false=(List.replicate l.length false).toArray:=by simp
 rw [e]
 simpa [wpR] using h
theorem zX {fuel:Nat} {listed:Array Bool} {a:Act} {w:World} (hr:Region.ready .any ops listed=[]) (h:Q .normal a w):wpR P ops Q R fuel listed a w:=wpAnyH_done hr h fuel
end
section
variable {P:Program} {l:List Oper} {Q:Exit→Act→World→Prop} {R:World→World→Prop}
theorem Xo (i:Nat) {v:Value} {fuel:Nat} {listed:Array Bool} {a:Act} {w:World} (M:ZI R) (hlt:i<l.length)
  (hs:Region.noSelect l.toArray=true) (hf:Region.free .any l.toArray listed i=true) (hr:(Region.ready .any l.toArray listed).contains i=true)
  (hQ:∀ c a w,Q (.panic c) (a.put l[i].dst v) w→Q (.panic c) a w)
  (hy:(Region.wanted l[i] (yielded l.toArray a.tmps)=true∧∀ w',R w w'→(execOp a.eval l[i]).run P w'= .ok (.value v) w')∨(Region.wanted l[i] (yielded l.toArray a.tmps)=false∧v=undef))
  (h:wpR P l.toArray Q R fuel (listed.setIfInBounds i true) (a.put l[i].dst v) w):wpR P l.toArray Q R (fuel+1) listed a w :=
 wpAnyH_take (i:=i) (oi:=l[i]) (by simp [hlt]) hs hf hr hQ hy (M.refl w) h
theorem KV (i:Nat) {fuel:Nat} {listed:Array Bool} {a:Act} {w:World} (M:ZI R) (hlt:i<l.length) (hr:Region.ready .any l.toArray listed=[i])
  (hw:Region.wanted l[i] (yielded l.toArray a.tmps)=true)
  (h:l[i].wp P a w (fun a' w'=>R w w'∧wpR P l.toArray Q R fuel (listed.setIfInBounds i true) a' w') Q):wpR P l.toArray Q R (fuel+1) listed a w:=by
 refine ⟨fun h0=>absurd (hr ▸ h0) (by simp),fun j hj=>?_⟩
 rw [hr,List.mem_singleton] at hj
 subst hj
 unfold wpOp
 have hi:l.toArray[j]?=some l[j]:=by simp [hlt]
 simp only [hi,hw,if_true]
 exact .inl (Oper.wp_mono (fun a' w' h'=>⟨h'.1,Vw (fun w2 h2=>M.trans _ _ _ h'.1 h2) _ _ _ _ h'.2⟩) h)
theorem zR (i:Nat) {f:FuncId} {vals:Array Value} {fuel:Nat} {listed:Array Bool} {a:Act} {w:World} (M:ZI R) (hlt:i<l.length) (hr:Region.ready .any l.toArray listed=[i])
  (hw:Region.wanted l[i] (yielded l.toArray a.tmps)=true)
  (h:Calls P f vals w fun e w'=>∃ v,e= .returned v∧R w w'∧wpR P l.toArray Q R fuel (listed.setIfInBounds i true) (a.put l[i].dst v) w')
  (hrun:∀ w,(execOp a.eval l[i]).run P w= .ok (.enter f vals) w):wpR P l.toArray Q R (fuel+1) listed a w:=by
 refine KV i M hlt hr hw ?_
 unfold Oper.wp
 rw [hrun w]
 refine Calls.mono h ?_
 rintro e w' ⟨v,rfl,h1,h2⟩
 exact ⟨h1,h2⟩
end
section
variable {P:Program} {l:List Oper} {Q:Exit→Act→World→Prop} {R:World→World→Prop}
def wpS (P:Program) (l:List Oper) (Q:Exit→Act→World→Prop) (R:World→World→Prop) (i:Nat) (fuel:Nat) (listed:Array Bool) (a:Act) (w:World):Prop :=
 ∃ (h:i<l.length),Region.wanted l[i] (yielded l.toArray a.tmps)=true∧l[i].wp P a w (fun a' w'=>R w w'∧wpR P l.toArray Q R fuel (listed.setIfInBounds i true) a' w') Q
theorem Gv {i fuel:Nat} {listed:Array Bool} {a:Act} {w:World} (M:ZI R) (h:wpS P l Q R i fuel listed a w):wpOp P l.toArray Q i (fun a' w'=>R w w'∧wpAnyH P .any l.toArray Q (R w) fuel (listed.setIfInBounds i true) a' w') a w:=by
 obtain ⟨hlt,hw,h⟩:=h
 unfold wpOp
 have hi:l.toArray[i]?=some l[i]:=by simp [hlt]
 simp only [hi,hw,if_true]
 exact .inl (Oper.wp_mono (fun a' w' h'=>⟨h'.1,Vw (fun w2 h2=>M.trans _ _ _ h'.1 h2) _ _ _ _ h'.2⟩) h)
theorem Ux (i j:Nat) {fuel:Nat} {listed:Array Bool} {a:Act} {w:World} (M:ZI R) (hr:Region.ready .any l.toArray listed=[i,j])
  (h1:wpS P l Q R i fuel listed a w) (h2:wpS P l Q R j fuel listed a w):wpR P l.toArray Q R (fuel+1) listed a w:=by
 refine ⟨fun h0=>absurd (hr ▸ h0) (by simp),fun k hk=>?_⟩
 rw [hr] at hk
 simp at hk
 rcases hk with rfl | rfl
 ·exact Gv M h1
 ·exact Gv M h2
theorem UB (i:Nat) {fuel:Nat} {listed:Array Bool} {a:Act} {w:World} (M:ZI R) (hr:Region.ready .any l.toArray listed=[i])
  (h1:wpS P l Q R i fuel listed a w):wpR P l.toArray Q R (fuel+1) listed a w:=by
 refine ⟨fun h0=>absurd (hr ▸ h0) (by simp),fun k hk=>?_⟩
 rw [hr] at hk
 simp at hk
 subst hk
 exact Gv M h1
theorem zY {i:Nat} {f:FuncId} {vals:Array Value} {fuel:Nat} {listed:Array Bool} {a:Act} {w:World} (hlt:i<l.length) (hw:Region.wanted l[i] (yielded l.toArray a.tmps)=true)
  (h:Calls P f vals w fun e w'=>∃ v,e= .returned v∧R w w'∧wpR P l.toArray Q R fuel (listed.setIfInBounds i true) (a.put l[i].dst v) w')
  (hrun:∀ w,(execOp a.eval l[i]).run P w= .ok (.enter f vals) w):wpS P l Q R i fuel listed a w:=by
 refine ⟨hlt,hw,?_⟩
 unfold Oper.wp
 rw [hrun w]
 refine Calls.mono h ?_
 rintro e w' ⟨v,rfl,h1,h2⟩
 exact ⟨h1,h2⟩
end
theorem Vm {P:Program} {w:World} {t e:TypeId} {size bytes:Nat} {z:Value} (E:Jm P t e size bytes z) (A:Option Addr) (n c h:Nat) (hc:h≤c) :
  (Instr.slice t (.slice A n c) none (some (.int .i64 (h:Int))) none).run P w= .ok (.slice A h c) w:=by
 obtain ⟨ht,⟨i,hi,hz,hs,hby⟩,hzs,hsz⟩:=E
 have he:P.elem t=e:=by simp [Program.elem,ht]
 rw [run_slice_h (P:=P) w t A n c (by rw [he];exact ht) .i64 (h:Int) (by omega) (by omega),he]
 cases A <;> simp [sizeOf,typeInfo,hi,sliced,Result.andThen,Addr.add]
def Ul (l:List Oper) (hs:List Nat):List Nat→Array Bool→Bool
 | [],listed=>(Region.ready .any l.toArray listed).isEmpty
 | i :: rest,listed=>decide (i<l.length)&&Region.free .any l.toArray listed i&&(Region.ready .any l.toArray listed).contains i &&
   (!hs.contains i||Region.ready .any l.toArray listed == [i])&&Ul l hs rest (listed.setIfInBounds i true)
def wpO (P:Program) (l:List Oper) (hs:List Nat) (Q:Exit→Act→World→Prop) (R:World→World→Prop) (order:List Nat) (listed:Array Bool) (a:Act) (w:World):Prop :=
 Region.noSelect l.toArray=true→Ul l hs order listed=true→wpR P l.toArray Q R order.length listed a w
section
variable {P:Program} {l:List Oper} {hs:List Nat} {Q:Exit→Act→World→Prop} {R:World→World→Prop} {rest:List Nat} {i:Nat} {o:Oper} {listed:Array Bool} {a:Act} {w:World}
theorem Z7 {id:Nat} (R:World→World→Prop) (hs order:List Nat) (hm:P.follows .mixedOrders=true) (hok:(Region.noSelect l.toArray&&order.length == l.length&&Ul l hs order (List.replicate l.length false).toArray)=true)
  (h:wpO P l hs Q R order (List.replicate l.length false).toArray a w.drew):(Code.region id l.toArray true).wp P Q a w:=by
 simp only [Bool.and_eq_true,beq_iff_eq] at hok
 refine JF R hm ?_
 rw [←hok.1.2]
 have:=h hok.1.1 hok.2
 rwa [hok.1.2] at this ⊢
theorem zH (M:ZI R) {order:List Nat} (h:∀ W,R w W→wpO P l hs Q R order listed a W):wpO P l hs Q R order listed a w:=h w (M.refl w)
theorem Yd (h:Q .normal a w):wpO P l hs Q R [] listed a w:=fun _ hok=>zX (by simpa [Ul] using hok) h
theorem Vv (h:Ul l hs (i :: rest) listed=true):i<l.length∧Region.free .any l.toArray listed i=true∧(Region.ready .any l.toArray listed).contains i=true ∧
  (hs.contains i=true→Region.ready .any l.toArray listed=[i])∧Ul l hs rest (listed.setIfInBounds i true)=true:=by
 unfold Ul at h
 simp only [Bool.and_eq_true,Bool.or_eq_true,Bool.not_eq_true',decide_eq_true_eq,beq_iff_eq] at h
 obtain ⟨⟨⟨⟨h1,h2⟩,h3⟩,h4⟩,h5⟩:=h
 refine ⟨h1,h2,h3,fun h6=>?_,h5⟩
 rcases h4 with h4 | h4
 ·rw [h6] at h4;cases h4
 ·exact h4
theorem YN {h:i<l.length} (ho:l[i]?=some o):l[i]=o:=by
 rw [List.getElem?_eq_getElem h] at ho
 injection ho
theorem Zy {v:Value} (M:ZI R) (ho:l[i]?=some o) (hw:Region.wanted o (yielded l.toArray a.tmps)=true) (hQ:∀ c a w,Q (.panic c) (a.put o.dst v) w→Q (.panic c) a w)
  (hrun:∀ w',R w w'→(execOp a.eval o).run P w'= .ok (.value v) w') (h:wpO P l hs Q R rest (listed.setIfInBounds i true) (a.put o.dst v) w):wpO P l hs Q R (i :: rest) listed a w:=by
 intro hn hok
 obtain ⟨h1,h2,h3,-,h5⟩:=Vv hok
 have e:=YN (h:=h1) ho
 subst e
 exact Xo i M h1 hn h2 h3 hQ (.inl ⟨hw,hrun⟩) (h hn h5)
theorem ZK (M:ZI R) (ho:l[i]?=some o) (hw:Region.wanted o (yielded l.toArray a.tmps)=false) (hQ:∀ c a w,Q (.panic c) (a.put o.dst undef) w→Q (.panic c) a w)
  (h:wpO P l hs Q R rest (listed.setIfInBounds i true) (a.put o.dst undef) w):wpO P l hs Q R (i :: rest) listed a w:=by
 intro hn hok
 obtain ⟨h1,h2,h3,-,h5⟩:=Vv hok
 have e:=YN (h:=h1) ho
 subst e
 exact Xo i M h1 hn h2 h3 hQ (.inr ⟨hw,rfl⟩) (h hn h5)
theorem Z6 (M:ZI R) (hh:hs.contains i=true) (ho:l[i]?=some o) (hw:Region.wanted o (yielded l.toArray a.tmps)=true)
  (h:o.wp P a w (fun a' w'=>R w w'∧wpO P l hs Q R rest (listed.setIfInBounds i true) a' w') Q):wpO P l hs Q R (i :: rest) listed a w:=by
 intro hn hok
 obtain ⟨h1,-,-,h4,h5⟩:=Vv hok
 have e:=YN (h:=h1) ho
 subst e
 exact KV i M h1 (h4 hh) hw (Oper.wp_mono (fun a' w' h'=>⟨h'.1,h'.2 hn h5⟩) h)
theorem YF {f:FuncId} {vals:Array Value} (M:ZI R) (hh:hs.contains i=true) (ho:l[i]?=some o) (hw:Region.wanted o (yielded l.toArray a.tmps)=true)
  (hrun:∀ w,(execOp a.eval o).run P w= .ok (.enter f vals) w)
  (h:Calls P f vals w fun e w'=>∃ v,e= .returned v∧R w w'∧wpO P l hs Q R rest (listed.setIfInBounds i true) (a.put o.dst v) w'):wpO P l hs Q R (i :: rest) listed a w:=by
 refine Z6 M hh ho hw ?_
 unfold Oper.wp
 rw [hrun w]
 refine Calls.mono h ?_
 rintro e w' ⟨v,rfl,h1,h2⟩
 exact ⟨h1,h2⟩
end
theorem Zc {w w':World} (h:ZQ w.drew w'):∀ b o,b<w.heap.size→w'.cell? ⟨b,o,none⟩=w.cell? ⟨b,o,none⟩:=fun b o hb=>Below.cell h (p:=⟨b,o,none⟩) hb
theorem Gs {g:Nat} {w w':World} (h:GE g w w'):∀ b o,b<w.heap.size→b≠g→w'.cell? ⟨b,o,none⟩=w.cell? ⟨b,o,none⟩:=fun b o hb hne=>by
 have:=h.block b hb (fun e=>hne (by injection e))
 simp only [World.cell?,this]
theorem X4 {g:Nat} {w w':World} (h:GE g w.drew w'):∀ b o,b<w.heap.size→b≠g→w'.cell? ⟨b,o,none⟩=w.cell? ⟨b,o,none⟩:=fun b o hb hne=>Gs h b o hb hne
end Go.Proofs.Ytbiieaiahdihnaa
