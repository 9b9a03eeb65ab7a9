/- A part of the proof. No condition. -/
import Derived.Deep.RegionHeld3
import Derived.Test.YtakjnmojigechaaGreatProg
import Derived.Test.YtakjnmojigechaaGreatJB5
import Derived.Test.YtakjnmojigechaaGreatJB10
import Derived.Test.YtakjnmojigechaaGreatJB8

namespace Go.Proofs.YtakjnmojigechaaGreat
open Go.RowKit
section
variable {P:Program} {ops:Array Oper} {Q:Exit→Act→World→Prop} {R:World→World→Prop}
end
section
variable {P:Program} {l:List Oper} {Q:Exit→Act→World→Prop} {R:World→World→Prop}
end
section
variable {P:Program} {l:List Oper} {Q:Exit→Act→World→Prop} {R:World→World→Prop}
def wpS (P:Program) (l:List Oper) (Q:Exit→Act→World→Prop) (R:World→World→Prop) (i:Nat) (fuel:Nat) (listed:Array Bool) (a:Act) (w:World):Prop :=
 ∃ (h:i<l.length),Region.wanted l[i] (yielded l.toArray a.tmps)=true∧l[i].wp P a w (fun a' w'=>R w w'∧wpR P l.toArray Q R fuel (listed.setIfInBounds i true) a' w') Q
theorem zC6 {i fuel:Nat} {listed:Array Bool} {a:Act} {w:World} (M:YO R) (h:wpS P l Q R i fuel listed a w):wpOp P l.toArray Q i (fun a' w'=>R w w'∧wpAnyH P .any l.toArray Q (R w) fuel (listed.setIfInBounds i true) a' w') a w:=by
 obtain ⟨hlt,hw,h⟩:=h
 unfold wpOp
 have hi:l.toArray[i]?=some l[i]:=by simp [hlt]
 simp only [hi,hw,if_true]
 exact .inl (Oper.wp_mono (fun a' w' h'=>⟨h'.1,Ke (fun w2 h2=>M.trans _ _ _ h'.1 h2) _ _ _ _ h'.2⟩) h)
theorem zE1 (i j:Nat) {fuel:Nat} {listed:Array Bool} {a:Act} {w:World} (M:YO R) (hr:Region.ready .any l.toArray listed=[i,j])
  (h1:wpS P l Q R i fuel listed a w) (h2:wpS P l Q R j fuel listed a w):wpR P l.toArray Q R (fuel+1) listed a w:=by
 refine ⟨fun h0=>absurd (hr ▸ h0) (by simp),fun k hk=>?_⟩
 rw [hr] at hk
 simp at hk
 rcases hk with rfl | rfl
 ·exact zC6 M h1
 ·exact zC6 M h2
theorem zEl (i:Nat) {fuel:Nat} {listed:Array Bool} {a:Act} {w:World} (M:YO R) (hr:Region.ready .any l.toArray listed=[i])
  (h1:wpS P l Q R i fuel listed a w):wpR P l.toArray Q R (fuel+1) listed a w:=by
 refine ⟨fun h0=>absurd (hr ▸ h0) (by simp),fun k hk=>?_⟩
 rw [hr] at hk
 simp at hk
 subst hk
 exact zC6 M h1
theorem zI3 {i:Nat} {f:FuncId} {vals:Array Value} {fuel:Nat} {listed:Array Bool} {a:Act} {w:World} (hlt:i<l.length) (hw:Region.wanted l[i] (yielded l.toArray a.tmps)=true)
  (h:Calls P f vals w fun e w'=>∃ v,e= .returned v∧R w w'∧wpR P l.toArray Q R fuel (listed.setIfInBounds i true) (a.put l[i].dst v) w')
  (hrun:∀ w,(execOp a.eval l[i]).run P w= .ok (.enter f vals) w):wpS P l Q R i fuel listed a w:=by
 refine ⟨hlt,hw,?_⟩
 unfold Oper.wp
 rw [hrun w]
 refine Calls.mono h ?_
 rintro e w' ⟨v,rfl,h1,h2⟩
 exact ⟨h1,h2⟩
end
def yl (l:List Oper) (i j:Nat):Bool:=match l[i]?,l[j]? with
 | some x,some y=>x.apart l.toArray y
 | _,_=>false
def xI (l:List Oper) (hs tail:List Nat) (j:Nat):List Nat→Array Bool→Bool
 | [],L=>decide (j<l.length)&&Region.ready .any l.toArray L == [j]&&zk l hs tail (L.setIfInBounds j true)
 | i :: rest,L=>decide (i<l.length)&&decide (j<l.length)&&decide (i≠j)&&yl l i j&&Region.free .any l.toArray L i&&(Region.ready .any l.toArray L).contains i &&
   Region.free .any l.toArray (L.setIfInBounds j true) i&&(Region.ready .any l.toArray (L.setIfInBounds j true)).contains i &&
   (!hs.contains i||((Region.ready .any l.toArray L == [i]||Region.ready .any l.toArray L == [i,j]||Region.ready .any l.toArray L == [j,i])&&Region.ready .any l.toArray (L.setIfInBounds j true) == [i])) &&
   xI l hs tail j rest (L.setIfInBounds i true)
def Makes (P:Program) (o:Oper) (t:TypeId) (z:Array Value):Prop:=o.guard=none∧∀ a w,(execOp a o).run P w= .ok (.value (.pointer (some ⟨w.heap.size,0,none⟩))) (w.alloc (.cells z t))
def wpX (P:Program) (l:List Oper) (hs tail:List Nat) (Q:Exit→Act→World→Prop) (N j:Nat) (t:TypeId) (z:Array Value) (order:List Nat) (listed:Array Bool) (a:Act) (w:World):Prop :=
 Region.noSelect l.toArray=true→xI l hs tail j order listed=true→(∃ oj,l[j]?=some oj∧Makes P oj t z) →
  wpR P l.toArray Q (UY N) (order.length+1+tail.length) listed a w ∧
  ∀ (oj:Oper) (w1:World) (g:Nat),l[j]?=some oj→Below w.heap.size w w1→Blk w1 g t z→N≤g→wpR P l.toArray Q (UY N) (order.length+tail.length) (listed.setIfInBounds j true) (a.put oj.dst (.pointer (some ⟨g,0,none⟩))) w1
section
variable {P:Program} {l:List Oper} {hs tail:List Nat} {Q:Exit→Act→World→Prop} {N j:Nat} {t:TypeId} {z:Array Value} {rest:List Nat} {i:Nat} {o:Oper} {listed:Array Bool} {a:Act} {w:World}
theorem zr {id:Nat} {oj:Oper} (N:Nat) (hs order:List Nat) (j:Nat) (tail:List Nat) (t:TypeId) (z:Array Value) (hm:P.follows .mixedOrders=true) (hoj:l[j]?=some oj) (hmk:Makes P oj t z)
  (hok:(Region.noSelect l.toArray&&order.length+1+tail.length == l.length&&xI l hs tail j order (List.replicate l.length false).toArray)=true)
  (h:wpX P l hs tail Q N j t z order (List.replicate l.length false).toArray a w.drew):(Code.region id l.toArray true).wp P Q a w:=by
 simp only [Bool.and_eq_true,beq_iff_eq] at hok
 refine JR (UY N) hm ?_
 rw [←hok.1.2]
 have:=(h hok.1.1 hok.2 ⟨oj,hoj,hmk⟩).1
 rwa [hok.1.2] at this ⊢
theorem Gs {order:List Nat} (h:∀ W,Hid (W=w)→UY N w W→wpX P l hs tail Q N j t z order listed a W):wpX P l hs tail Q N j t z order listed a w:=h w rfl ((Zd N).refl w)
theorem Gy (h:xI l hs tail j (i :: rest) listed=true):(i<l.length∧j<l.length∧i≠j∧yl l i j=true)∧(Region.free .any l.toArray listed i=true∧(Region.ready .any l.toArray listed).contains i=true) ∧
  (Region.free .any l.toArray (listed.setIfInBounds j true) i=true∧(Region.ready .any l.toArray (listed.setIfInBounds j true)).contains i=true) ∧
  (hs.contains i=true→(Region.ready .any l.toArray listed=[i]∨Region.ready .any l.toArray listed=[i,j]∨Region.ready .any l.toArray listed=[j,i])∧Region.ready .any l.toArray (listed.setIfInBounds j true)=[i])∧xI l hs tail j rest (listed.setIfInBounds i true)=true:=by
 unfold xI at h
 simp only [Bool.and_eq_true,Bool.or_eq_true,Bool.not_eq_true',decide_eq_true_eq,beq_iff_eq] at h
 obtain ⟨⟨⟨⟨⟨⟨⟨⟨⟨h1,h2⟩,h3⟩,h4⟩,h5⟩,h6⟩,h7⟩,h8⟩,h9⟩,h10⟩:=h
 refine ⟨⟨h1,h2,h3,h4⟩,⟨h5,h6⟩,⟨h7,h8⟩,fun h=>?_,h10⟩
 rcases h9 with h9 | h9
 ·rw [h] at h9;cases h9
 ·refine ⟨?_,h9.2⟩
  rcases h9.1 with (x | x) | x
  ·exact .inl x
  ·exact .inr (.inl x)
  ·exact .inr (.inr x)
theorem xW {oj:Oper} (h:yl l i j=true) (ho:l[i]?=some o) (hoj:l[j]?=some oj):o.apart l.toArray oj=true:=by
 unfold yl at h
 rw [ho,hoj] at h
 exact h
theorem X6 {v:Value} (ho:l[i]?=some o) (hw:Region.wanted o (yielded l.toArray a.tmps)=true) (hN:N≤w.heap.size) (hQ:∀ c a w,Q (.panic c) (a.put o.dst v) w→Q (.panic c) a w)
  (hrun:∀ w',UY N w w'→(execOp a.eval o).run P w'= .ok (.value v) w') (h:wpX P l hs tail Q N j t z rest (listed.setIfInBounds i true) (a.put o.dst v) w):wpX P l hs tail Q N j t z (i :: rest) listed a w:=by
 intro hn hok hmk
 obtain ⟨⟨h1,h2,h3,h4⟩,⟨h5,h6⟩,⟨h7,h8⟩,-,h10⟩:=Gy hok
 obtain ⟨k1,k2⟩:=h hn h10 hmk
 have e:=Jm (h:=h1) ho
 subst e
 refine ⟨?_,fun oj w1 g hoj hb hg hNg=>?_⟩
 ·have:=YI i (Zd N) h1 hn h5 h6 hQ (.inl ⟨hw,hrun⟩) k1
  rwa [show (i :: rest).length+1+tail.length=rest.length+1+tail.length+1 by simp;omega]
 ·obtain ⟨a1,a2,a3⟩:=Oper.apart_spec (xW h4 ho hoj)
  have hsel:∀ cs b,l[i].op≠.select cs b:=fun cs b=>Region.noSelect_spec hn i l[i] cs b (by rw [List.getElem?_toArray];exact ho)
  have k3:=k2 oj w1 g hoj hb hg hNg
  rw [Array.setIfInBounds_comm _ _ h3,Act.put_comm a v _ a2] at k3
  have:=YI (a:=a.put oj.dst (.pointer (some ⟨g,0,none⟩))) i (Zd N) h1 hn h7 h8 hQ (.inl ⟨by rw [wanted_put _ _ _ _ a3];exact hw,fun w' hw'=>by rw [execOp_put _ hsel _ _ _ a3];exact hrun w' ((Zd N).trans _ _ _ (ZH hb hN) hw')⟩) k3
  rwa [show (i :: rest).length+tail.length=rest.length+tail.length+1 by simp;omega]
theorem VH (ho:l[i]?=some o) (hw:Region.wanted o (yielded l.toArray a.tmps)=false) (hQ:∀ c a w,Q (.panic c) (a.put o.dst undef) w→Q (.panic c) a w)
  (h:wpX P l hs tail Q N j t z rest (listed.setIfInBounds i true) (a.put o.dst undef) w):wpX P l hs tail Q N j t z (i :: rest) listed a w:=by
 intro hn hok hmk
 obtain ⟨⟨h1,h2,h3,h4⟩,⟨h5,h6⟩,⟨h7,h8⟩,-,h10⟩:=Gy hok
 obtain ⟨k1,k2⟩:=h hn h10 hmk
 have e:=Jm (h:=h1) ho
 subst e
 refine ⟨?_,fun oj w1 g hoj hb hg hNg=>?_⟩
 ·have:=YI i (Zd N) h1 hn h5 h6 hQ (.inr ⟨hw,rfl⟩) k1
  rwa [show (i :: rest).length+1+tail.length=rest.length+1+tail.length+1 by simp;omega]
 ·obtain ⟨a1,a2,a3⟩:=Oper.apart_spec (xW h4 ho hoj)
  have k3:=k2 oj w1 g hoj hb hg hNg
  rw [Array.setIfInBounds_comm _ _ h3,Act.put_comm a undef _ a2] at k3
  have:=YI (a:=a.put oj.dst (.pointer (some ⟨g,0,none⟩))) i (Zd N) h1 hn h7 h8 hQ (.inr ⟨by rw [wanted_put _ _ _ _ a3];exact hw,rfl⟩) k3
  rwa [show (i :: rest).length+tail.length=rest.length+tail.length+1 by simp;omega]
theorem Je {f:FuncId} {vals:Array Value} (hh:hs.contains i=true) (ho:l[i]?=some o) (hw:Region.wanted o (yielded l.toArray a.tmps)=true) (hN:N≤w.heap.size)
  (hrun:∀ w,(execOp a.eval o).run P w= .ok (.enter f vals) w)
  (h:∀ w1,Below w.heap.size w w1→Calls P f vals w1 fun e w'=>∃ v,e= .returned v∧Below w1.heap.size w1 w'∧wpX P l hs tail Q N j t z rest (listed.setIfInBounds i true) (a.put o.dst v) w'):wpX P l hs tail Q N j t z (i :: rest) listed a w:=by
 intro hn hok hmk
 obtain ⟨⟨h1,h2,h3,h4⟩,⟨h5,h6⟩,⟨h7,h8⟩,h9,h10⟩:=Gy hok
 obtain ⟨hr1,hr2⟩:=h9 hh
 obtain ⟨oj,hoj,gj,hmj⟩:=id hmk
 obtain ⟨a1,a2,a3⟩:=Oper.apart_spec (xW h4 ho hoj)
 have e:=Jm (h:=h1) ho
 subst e
 have ej:=Jm (h:=h2) hoj
 subst ej
 have hsel:∀ cs b,l[i].op≠.select cs b:=fun cs b=>Region.noSelect_spec hn i l[i] cs b (by rw [List.getElem?_toArray];exact ho)
 have done:∀ (w1:World) (g:Nat),Below w.heap.size w w1→Blk w1 g t z→N≤g→wpR P l.toArray Q (UY N) (rest.length+tail.length+1) (listed.setIfInBounds j true) (a.put l[j].dst (.pointer (some ⟨g,0,none⟩))) w1:=fun w1 g hb hg hNg=>by
  refine xx i (Zd N) h1 hr2 (by rw [wanted_put _ _ _ _ a3];exact hw) ((h w1 hb).mono ?_) (fun w=>by rw [execOp_put _ hsel _ _ _ a3];exact hrun w)
  rintro e w' ⟨v,rfl,hb',hx⟩
  refine ⟨v,rfl,ZH hb' (Nat.le_trans hN hb.size),?_⟩
  have k3:=(hx hn h10 hmk).2 l[j] w' g hoj (Below.refl _ _) (hg.below hb' hg.lt) hNg
  rw [Array.setIfInBounds_comm _ _ h3,Act.put_comm a v _ a2] at k3
  exact k3
 have A1:wpS P l Q (UY N) i (rest.length+1+tail.length) listed a w:=by
  refine zI3 h1 hw ((h w (Below.refl _ _)).mono ?_) hrun
  rintro e w' ⟨v,rfl,hb',hx⟩
  exact ⟨v,rfl,ZH hb' hN,(hx hn h10 hmk).1⟩
 have A2:wpS P l Q (UY N) j (rest.length+1+tail.length) listed a w:=by
  refine ⟨h2,by simp [Region.wanted,gj],?_⟩
  unfold Oper.wp
  rw [hmj]
  have hb:Below w.heap.size w (w.alloc (.cells z t)):=(Below.refl _ w).alloc (Nat.le_refl _) _
  have:=done _ _ hb (Blk.new w t z) hN
  rw [show rest.length+tail.length+1=rest.length+1+tail.length by omega] at this
  exact ⟨ZH hb hN,this⟩
 refine ⟨?_,fun oj w1 g hoj' hb hg hNg=>?_⟩
 ·rw [show (i :: rest).length+1+tail.length=rest.length+1+tail.length+1 by simp;omega]
  rcases hr1 with hr | hr | hr
  ·exact zEl i (Zd N) hr A1
  ·exact zE1 i j (Zd N) hr A1 A2
  ·exact zE1 j i (Zd N) hr A2 A1
 ·have e:=Jm (h:=h2) hoj'
  subst e
  have:=done w1 g hb hg hNg
  rwa [show (i :: rest).length+tail.length=rest.length+tail.length+1 by simp;omega]
theorem zAj (hN:N≤w.heap.size) (h:∀ (oj:Oper) (w1:World) (g:Nat),l[j]?=some oj→Below w.heap.size w w1→Blk w1 g t z→N≤g→wpO P l hs Q (UY N) tail (listed.setIfInBounds j true) (a.put oj.dst (.pointer (some ⟨g,0,none⟩))) w1):wpX P l hs tail Q N j t z [] listed a w:=by
 intro hn hok hmk
 unfold xI at hok
 simp only [Bool.and_eq_true,decide_eq_true_eq,beq_iff_eq] at hok
 obtain ⟨⟨h2,hr⟩,hk⟩:=hok
 obtain ⟨oj,hoj,gj,hmj⟩:=id hmk
 have ej:=Jm (h:=h2) hoj
 subst ej
 refine ⟨?_,fun oj w1 g hoj' hb hg hNg=>?_⟩
 ·rw [show ([]:List Nat).length+1+tail.length=tail.length+1 by simp;omega]
  refine zEl j (Zd N) hr ⟨h2,by simp [Region.wanted,gj],?_⟩
  unfold Oper.wp
  rw [hmj]
  have hb:Below w.heap.size w (w.alloc (.cells z t)):=(Below.refl _ w).alloc (Nat.le_refl _) _
  exact ⟨ZH hb hN,h _ _ _ hoj hb (Blk.new w t z) hN hn hk⟩
 ·rw [show ([]:List Nat).length+tail.length=tail.length by simp]
  exact h oj w1 g hoj' hb hg hNg hn hk
end
theorem Xn {w:World} {base:Nat} {e:TypeId} {size:Nat} {v:Value} {n:Nat} {xs:List Value} {g:Nat} {t:TypeId} {cs:Array Value} (h:w.ownsRow base e size v n xs) (k:Blk w g t cs) (ht:t≠e):∀ q,v.ownBlock=some q→some g=some q→False:=fun q hq hg=>by
 obtain rfl:=Option.some.inj hg
 obtain ⟨h1,h2⟩:=h
 rcases h2 with ⟨rfl,-⟩ | ⟨q,cap,cur,rfl,-,hh,-⟩
 ·cases hq
 ·obtain rfl:q=g:=Option.some.inj hq
  unfold Blk at k
  rw [hh] at k
  cases k
  exact ht rfl
end Go.Proofs.YtakjnmojigechaaGreat
