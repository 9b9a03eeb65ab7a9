/- A part of the proof. No condition. -/
import Derived.Test.YtdhhdplholkmdaaGreatProg
import Derived.Test.YtdhhdplholkmdaaGreatPC15
import Derived.Test.YtdhhdplholkmdaaGreatPC19
import Derived.Deep.AppendLies
import Derived.Laws.OwnMore
import Derived.Test.YtdhhdplholkmdaaGreatPC17
import Derived.Test.YtdhhdplholkmdaaGreatPC8
import Derived.ChangeKeysEq
import Derived.Test.YtdhhdplholkmdaaGreatPC21

namespace Go.Proofs.YtdhhdplholkmdaaGreat
open Go.RowKit
theorem kY {F F':Nat→Prop} {w w':World} (h:Moved F F' w w') {N:Nat} {V0:Nat→Prop} (hN:N≤w.heap.size) (hV:∀ b,b<N→F b→V0 b):∀ b,b<N→F' b→V0 b:=fun b hb hf=>by
 rcases h.foot b hf with e | e
 ·exact hV b hb e
 ·omega
structure X5 (V0:Nat→Prop) (N:Nat) (V:Nat→Prop) (w:World):Prop where
 size:N≤w.heap.size
 lt:∀ b,V b→b<w.heap.size
 old:∀ b,b<N→V b→V0 b
theorem Z1 {V0 V V':Nat→Prop} {N:Nat} {w w':World} (h:X5 V0 N V w) (m:Moved V V' w w') (hlt:∀ b,V' b→b<w'.heap.size):X5 V0 N V' w':=⟨Nat.le_trans h.size m.size,hlt,kY m h.size h.old⟩
theorem Zo {V0 V:Nat→Prop} {N:Nat} {w w':World} (h:X5 V0 N V w) (m:Below w.heap.size w w'):X5 V0 N V w':=⟨Nat.le_trans h.size m.size,fun b hb=>Nat.lt_of_lt_of_le (h.lt b hb) m.size,h.old⟩
theorem kU {V:Nat→Prop} {w:World} (hlt:∀ b,V b→b<w.heap.size):X5 V w.heap.size V w:=⟨Nat.le_refl _,hlt,fun _ _ h=>h⟩
theorem Z0 {V0 V V':Nat→Prop} {N:Nat} {w w':World} (h:X5 V0 N V w) (m:Moved V V' w w'):XE V0 N w w':=jl m h.size h.old
section
variable {P:Program} {l:List Oper} {hs tail:List Nat} {Q:Exit→Act→World→Prop} {V0 V:Nat→Prop} {N j:Nat} {t:TypeId} {z:Array Value} {rest:List Nat} {i:Nat} {o:Oper} {listed:Array Bool} {a:Act} {w:World}
end
def kT:List Nat→List (List Nat)
 | []=>[[]]
 | j :: js=>kT js++(kT js).map (j :: ·)
theorem Ke (f:Nat→Bool):∀ js:List Nat,js.filter f∈kT js
 | []=>by simp [kT]
 | j :: js=>by
  rw [kT,List.mem_append]
  cases h:f j
  ·rw [List.filter_cons_of_neg (by rw [h];exact Bool.false_ne_true)]
   exact .inl (Ke f js)
  ·rw [List.filter_cons_of_pos h]
   exact .inr (List.mem_map.2 ⟨_,Ke f js,rfl⟩)
def Vq (L:Array Bool) (S:List Nat):Array Bool:=S.foldl (fun L j=>L.setIfInBounds j true) L
theorem UZ:∀ (S:List Nat) (L:Array Bool) (i:Nat),(Vq L S)[i]?=if i∈S then L[i]?.map (fun _=>true) else L[i]?
 | [],_,_=>by simp [Vq]
 | j :: S,L,i=>by
  show (Vq (L.setIfInBounds j true) S)[i]?=_
  rw [UZ S,Array.getElem?_setIfInBounds]
  by_cases e:j=i
  ·subst e
   by_cases hj:j<L.size
   ·simp [hj]
   ·simp [hj]
  ·have e':¬i=j:=fun h=>e h.symm
   simp [e,e']
theorem Jb {S:List Nat} {L:Array Bool} {i:Nat} (h:i ∉ S):(Vq L S).setIfInBounds i true=Vq (L.setIfInBounds i true) S:=by
 refine Array.ext_getElem? fun k=>?_
 have hsz:∀ (S:List Nat) (L:Array Bool),(Vq L S).size=L.size:=fun S=>by
  induction S with
  | nil=>intro L;rfl
  | cons j S ih=>intro L;show (Vq (L.setIfInBounds j true) S).size=_;rw [ih];simp
 rw [Array.getElem?_setIfInBounds,UZ,UZ,Array.getElem?_setIfInBounds,hsz]
 by_cases e:i=k
 ·subst e
  simp [h]
 ·simp [e]
theorem zD5 {J:List Nat} {f f':Nat→Bool} {L:Array Bool} {j:Nat} (hj:j∈J) (h1:f' j=true) (h2:∀ k,k≠j→f' k=f k):(Vq L (J.filter f)).setIfInBounds j true=Vq L (J.filter f'):=by
 refine Array.ext_getElem? fun k=>?_
 have hsz:∀ (S:List Nat) (L:Array Bool),(Vq L S).size=L.size:=fun S=>by
  induction S with
  | nil=>intro L;rfl
  | cons j S ih=>intro L;show (Vq (L.setIfInBounds j true) S).size=_;rw [ih];simp
 rw [Array.getElem?_setIfInBounds,UZ,UZ,hsz]
 by_cases e:j=k
 ·subst e
  simp only [if_true,List.mem_filter,hj,h1,true_and]
  by_cases hs:j<L.size
  ·simp [hs]
  ·simp [hs]
 ·have e':k≠j:=fun h=>e h.symm
  simp only [e,if_false,List.mem_filter,h2 k e']
structure Flo (V:Nat→Prop) (N:Nat) (w:World) (js:List (Nat × TypeId × Array Value)) (f:Nat→Bool) (gs:Nat→Nat):Prop where
 blk:∀ x∈js,f x.1=true→Blk w (gs x.1) x.2.1 x.2.2∧N≤gs x.1∧¬V (gs x.1)
 dif:∀ x∈js,∀ y∈js,f x.1=true→f y.1=true→x.1≠y.1→gs x.1≠gs y.1
def VY (gs:Nat→Nat):Nat→Value:=fun j=>.pointer (some ⟨gs j,0,none⟩)
def je (gs:Nat→Nat) (j g:Nat):Nat→Nat:=fun k=>if k=j then g else gs k
theorem zC0 (gs:Nat→Nat) (j g:Nat):VY (je gs j g)=upd (VY gs) j (.pointer (some ⟨g,0,none⟩)):=by
 funext k
 unfold VY je upd
 split <;> rfl
def KG (l:List Oper) (hs tail js:List Nat):List Nat→Array Bool→Bool
 | [],L=>(kT js).all (fun S=>js.all (fun j=>S.contains j)||(!(Region.ready .any l.toArray (Vq L S)).isEmpty&&(Region.ready .any l.toArray (Vq L S)).all fun k=>js.contains k&&!S.contains k))&&KQ l hs tail (Vq L js)
 | i :: rest,L=>decide (i<l.length)&&!js.contains i&&(js.all fun j=>Vn l i j) &&
   ((kT js).all fun S=>Region.free .any l.toArray (Vq L S) i&&(Region.ready .any l.toArray (Vq L S)).contains i&&(!hs.contains i||(Region.ready .any l.toArray (Vq L S)).all fun k=>k == i||(js.contains k&&!S.contains k))) &&
   KG l hs tail js rest (L.setIfInBounds i true)
def okJs (l:List Oper) (js:List Nat):Bool:=decide js.Nodup&&js.all fun j=>decide (j<l.length)&&js.all fun k=>j == k||(Y8 l j).isNone||Y8 l j != Y8 l k
def wpZ (P:Program) (l:List Oper) (hs tail:List Nat) (Q:Exit→Act→World→Prop) (V0:Nat→Prop) (N:Nat) (js:List (Nat × TypeId × Array Value)) (order:List Nat) (listed:Array Bool) (V:Nat→Prop) (a:Act) (w:World):Prop :=
 Region.noSelect l.toArray=true→KG l hs tail (js.map (·.1)) order listed=true→okJs l (js.map (·.1))=true→(∀ x∈js,∃ oj,l[x.1]?=some oj∧zAs P oj x.2.1 x.2.2) →
  ∀ (f:Nat→Bool) (gs:Nat→Nat) (w1:World),Below w.heap.size w w1→Flo V N w1 js f gs →
   wpR P l.toArray Q (XE V0 N) (order.length+((js.map (·.1)).filter fun j=>!f j).length+tail.length) (Vq listed ((js.map (·.1)).filter f)) (YG l (VY gs) a ((js.map (·.1)).filter f)) w1
section
variable {P:Program} {l:List Oper} {hs tail:List Nat} {Q:Exit→Act→World→Prop} {V0 V:Nat→Prop} {N:Nat} {js:List (Nat × TypeId × Array Value)} {rest:List Nat} {i:Nat} {o:Oper} {listed:Array Bool} {a:Act} {w:World}
theorem zDp:Flo V N w js (fun _=>false) (fun _=>0):=⟨fun _ _ h=>(nomatch h),fun _ _ _ _ h=>(nomatch h)⟩
theorem Kj {V':Nat→Prop} {f:Nat→Bool} {gs:Nat→Nat} {w1 w2:World} (h:Flo V N w1 js f gs) (hm:Moved V V' w1 w2):Flo V' N w2 js f gs :=
 ⟨fun x hx hf=>let ⟨a,b,c⟩:=h.blk x hx hf;⟨a.moved hm c,b,Yu hm a.lt c⟩,h.dif⟩
theorem YI {id:Nat} (V0 V:Nat→Prop) (N:Nat) (hs order:List Nat) (js:List (Nat × TypeId × Array Value)) (tail:List Nat) (hm:P.follows .mixedOrders=true)
  (hmk:∀ x∈js,∃ oj,l[x.1]?=some oj∧zAs P oj x.2.1 x.2.2)
  (hok:(Region.noSelect l.toArray&&order.length+js.length+tail.length == l.length&&KG l hs tail (js.map (·.1)) order (List.replicate l.length false).toArray&&okJs l (js.map (·.1)))=true)
  (h:wpZ P l hs tail Q V0 N js order (List.replicate l.length false).toArray V a w.drew):(Code.region id l.toArray true).wp P Q a w:=by
 simp only [Bool.and_eq_true,beq_iff_eq] at hok
 refine Jp (XE V0 N) hm ?_
 have:=h hok.1.1.1 hok.1.2 hok.2 hmk (fun _=>false) (fun _=>0) w.drew (Below.refl _ _) zDp
 have e0:(js.map (·.1)).filter (fun _=>!false)=js.map (·.1):=List.filter_eq_self.2 (fun _ _=>rfl)
 rw [List.filter_eq_nil_iff.2 (fun _ _=>Bool.false_ne_true),e0,List.length_map] at this
 rw [←hok.1.1.2]
 rw [←hok.1.1.2] at this
 exact this
theorem Yp {order:List Nat} (h:∀ W,Hid (W=w)→XE V0 N w W→wpZ P l hs tail Q V0 N js order listed V a W):wpZ P l hs tail Q V0 N js order listed V a w:=h w rfl ((Zb V0 N).refl w)
structure zEw (l:List Oper) (hs js:List Nat) (i:Nat) (L:Array Bool):Prop where
 lt:i<l.length
 nj:i ∉ js
 ap:∀ j∈js,Vn l i j=true
 fr:∀ f:Nat→Bool,Region.free .any l.toArray (Vq L (js.filter f)) i=true
 rd:∀ f:Nat→Bool,(Region.ready .any l.toArray (Vq L (js.filter f))).contains i=true
 hv:hs.contains i=true→∀ (f:Nat→Bool),∀ k∈Region.ready .any l.toArray (Vq L (js.filter f)),k=i∨(k∈js∧f k=false)
theorem JP {J:List Nat} (h:KG l hs tail J (i :: rest) listed=true):zEw l hs J i listed∧KG l hs tail J rest (listed.setIfInBounds i true)=true:=by
 unfold KG at h
 simp only [Bool.and_eq_true,Bool.not_eq_true',decide_eq_true_eq] at h
 obtain ⟨⟨⟨⟨h1,h2⟩,h3⟩,h4⟩,h5⟩:=h
 rw [List.all_eq_true] at h3 h4
 have h4':=fun f:Nat→Bool=>h4 _ (Ke f J)
 simp only [Bool.and_eq_true,Bool.or_eq_true,Bool.not_eq_true'] at h4'
 refine ⟨⟨h1,fun hj=>?_,h3,fun f=>(h4' f).1.1,fun f=>(h4' f).1.2,fun hh f k hk=>?_⟩,h5⟩
 ·rw [List.contains_iff_mem.2 hj] at h2;cases h2
 ·rcases (h4' f).2 with h6 | h6
  ·rw [hh] at h6;cases h6
  ·rw [List.all_eq_true] at h6
   have h7:=h6 k hk
   simp only [Bool.or_eq_true,beq_iff_eq,Bool.and_eq_true,Bool.not_eq_true',List.contains_iff_mem] at h7
   rcases h7 with h7 | ⟨h7,h8⟩
   ·exact .inl h7
   ·refine .inr ⟨h7,?_⟩
    cases hf:f k
    ·rfl
    ·rw [List.contains_iff_mem.2 (List.mem_filter.2 ⟨h7,hf⟩)] at h8;cases h8
structure JsOk (l:List Oper) (J:List Nat):Prop where
 nodup:J.Nodup
 lt:∀ j∈J,j<l.length
 dst:∀ j∈J,∀ k∈J,j≠k→∀ t,Y8 l j=some t→Y8 l k≠some t
theorem zBp {J:List Nat} (h:okJs l J=true):JsOk l J:=by
 unfold okJs at h
 simp only [Bool.and_eq_true,decide_eq_true_eq] at h
 have h2:=List.all_eq_true.1 h.2
 simp only [Bool.and_eq_true,decide_eq_true_eq] at h2
 refine ⟨h.1,fun j hj=>(h2 j hj).1,fun j hj k hk hne t e e'=>?_⟩
 have h3:=List.all_eq_true.1 (h2 j hj).2 k hk
 simp only [Bool.or_eq_true,beq_iff_eq,bne_iff_ne] at h3
 rcases h3 with (h3 | h3) | h3
 ·exact hne h3
 ·rw [e] at h3;cases h3
 ·exact h3 (e.trans e'.symm)
theorem Gs {j:Nat} {oj:Oper} (h:l[j]?=some oj):Y8 l j=oj.dst:=by
 unfold Y8
 rw [h]
 rfl
theorem XN (vs:Nat→Value) (hsel:∀ cs b,o.op≠.select cs b) (ho:l[i]?=some o):∀ (S:List Nat) (a:Act),(∀ j∈S,Vn l i j=true)→execOp (YG l vs a S).eval o=execOp a.eval o∧(∀ ops:Array Oper,ops=l.toArray→Region.wanted o (yielded ops (YG l vs a S).tmps)=Region.wanted o (yielded ops a.tmps))
 | [],_,_=>⟨rfl,fun _ _=>rfl⟩
 | j :: S,a,h=>by
  have hj:=h j (by simp)
  have h0:∃ oj,l[j]?=some oj:=by
   unfold Vn at hj
   rw [ho] at hj
   cases e:l[j]? with
   | none=>rw [e] at hj;cases hj
   | some oj=>exact ⟨oj,rfl⟩
  obtain ⟨oj,hoj⟩:=h0
  obtain ⟨a1,a2,a3⟩:=Oper.apart_spec (jG hj ho hoj)
  have ih:=XN vs hsel ho S (a.put (Y8 l j) (vs j)) fun k hk=>h k (by simp [hk])
  rw [Gs hoj] at ih
  refine ⟨?_,fun ops hops=>?_⟩
  ·show execOp (YG l vs (a.put (Y8 l j) (vs j)) S).eval o=_
   rw [Gs hoj]
   exact ih.1.trans (execOp_put _ hsel _ _ _ a3)
  ·show Region.wanted o (yielded ops (YG l vs (a.put (Y8 l j) (vs j)) S).tmps)=_
   rw [Gs hoj]
   refine (ih.2 ops hops).trans ?_
   subst hops
   exact wanted_put _ _ _ _ a3
theorem VU {S:List Nat} {vs:Nat→Value} {v:Value} (ho:l[i]?=some o) (h:∀ j∈S,Vn l i j=true):(YG l vs a S).put o.dst v=YG l vs (a.put o.dst v) S:=by
 refine (Je l vs o.dst v S a fun j hj t e e'=>?_).symm
 have hj:=h j hj
 cases hoj:l[j]? with
 | none=>unfold Y8 at e';rw [hoj] at e';cases e'
 | some oj =>
  obtain ⟨a1,a2,a3⟩:=Oper.apart_spec (jG hj ho hoj)
  rw [Gs hoj] at e'
  exact a2 t e e'
theorem Xi {J:List Nat} {f:Nat→Bool} (h:∀ j∈J,Vn l i j=true):∀ j∈J.filter f,Vn l i j=true:=fun j hj=>h j (List.mem_filter.1 hj).1
theorem ZJ {v:Value} (ho:l[i]?=some o) (hw:Region.wanted o (yielded l.toArray a.tmps)=true) (hF:Hid (X5 V0 N V w)) (hQ:∀ c a w,Q (.panic c) (a.put o.dst v) w→Q (.panic c) a w)
  (hrun:∀ w',XE V0 N w w'→(execOp a.eval o).run P w'= .ok (.value v) w') (h:wpZ P l hs tail Q V0 N js rest (listed.setIfInBounds i true) V (a.put o.dst v) w):wpZ P l hs tail Q V0 N js (i :: rest) listed V a w:=by
 intro hn hok hj hmk f gs w1 hb hfl
 obtain ⟨C,hr⟩:=JP hok
 have k:=h hn hr hj hmk f gs w1 hb hfl
 have hil:=C.lt
 have e:=Ux (h:=hil) ho
 subst e
 have hsel:∀ cs b,l[i].op≠.select cs b:=fun cs b=>Region.noSelect_spec hn i l[i] cs b (by rw [List.getElem?_toArray];exact ho)
 have hx:=XN (a:=a) (VY gs) hsel ho _ (Xi (f:=f) C.ap)
 rw [←Jb (fun hm=>C.nj (List.mem_filter.1 hm).1),←VU ho (Xi (f:=f) C.ap)] at k
 have:=YA (a:=YG l (VY gs) a ((js.map (·.1)).filter f)) i (Zb V0 N) C.lt hn (C.fr f) (C.rd f) hQ (.inl ⟨by rw [hx.2 _ rfl];exact hw,fun w' hw'=>by rw [hx.1];exact hrun w' ((Zb V0 N).trans _ _ _ (Zj hb hF.out.size) hw')⟩) k
 rwa [show (i :: rest).length+((js.map (·.1)).filter fun j=>!f j).length+tail.length=rest.length+((js.map (·.1)).filter fun j=>!f j).length+tail.length+1 by simp only [List.length_cons];omega]
theorem ZV (ho:l[i]?=some o) (hw:Region.wanted o (yielded l.toArray a.tmps)=false) (hQ:∀ c a w,Q (.panic c) (a.put o.dst undef) w→Q (.panic c) a w)
  (h:wpZ P l hs tail Q V0 N js rest (listed.setIfInBounds i true) V (a.put o.dst undef) w):wpZ P l hs tail Q V0 N js (i :: rest) listed V a w:=by
 intro hn hok hj hmk f gs w1 hb hfl
 obtain ⟨C,hr⟩:=JP hok
 have k:=h hn hr hj hmk f gs w1 hb hfl
 have hil:=C.lt
 have e:=Ux (h:=hil) ho
 subst e
 have hsel:∀ cs b,l[i].op≠.select cs b:=fun cs b=>Region.noSelect_spec hn i l[i] cs b (by rw [List.getElem?_toArray];exact ho)
 have hx:=XN (a:=a) (VY gs) hsel ho _ (Xi (f:=f) C.ap)
 rw [←Jb (fun hm=>C.nj (List.mem_filter.1 hm).1),←VU ho (Xi (f:=f) C.ap)] at k
 have:=YA (a:=YG l (VY gs) a ((js.map (·.1)).filter f)) i (Zb V0 N) C.lt hn (C.fr f) (C.rd f) hQ (.inr ⟨by rw [hx.2 _ rfl];exact hw,rfl⟩) k
 rwa [show (i :: rest).length+((js.map (·.1)).filter fun j=>!f j).length+tail.length=rest.length+((js.map (·.1)).filter fun j=>!f j).length+tail.length+1 by simp only [List.length_cons];omega]
theorem zE2 {J:List (Nat × TypeId × Array Value)} {k:Nat} (h:k∈J.map (·.1)):∃ x∈J,x.1=k:=by
 obtain ⟨x,hx,e⟩:=List.mem_map.1 h
 exact ⟨x,hx,e⟩
theorem jU {J:List Nat} {f f':Nat→Bool} {j:Nat} (hn:J.Nodup) (hj:j∈J) (h0:f j=false) (h1:f' j=true) (h2:∀ k,k≠j→f' k=f k):(J.filter fun k=>!f k).length=(J.filter fun k=>!f' k).length+1:=by
 induction J with
 | nil=>cases hj
 | cons x J ih =>
  obtain ⟨hx,hn'⟩:=List.nodup_cons.1 hn
  by_cases e:x=j
  ·subst e
   have:J.filter (fun k=>!f k)=J.filter (fun k=>!f' k):=List.filter_congr fun k hk=>by rw [h2 k (by rintro rfl;exact hx hk)]
   rw [List.filter_cons_of_pos (by rw [h0];rfl),List.filter_cons_of_neg (by rw [h1];exact Bool.false_ne_true),this]
   rfl
  ·have hj':j∈J:=by
    rcases List.mem_cons.1 hj with h | h
    ·exact absurd h.symm e
    ·exact h
   have:=ih hn' hj'
   cases hf:f x
   ·rw [List.filter_cons_of_pos (by rw [hf];rfl),List.filter_cons_of_pos (by rw [h2 x e,hf];rfl)]
    simp only [List.length_cons]
    omega
   ·rw [List.filter_cons_of_neg (by rw [hf];exact Bool.false_ne_true),List.filter_cons_of_neg (by rw [h2 x e,hf];exact Bool.false_ne_true)]
    exact this
theorem jA {order:List Nat} (hF:X5 V0 N V w) (hj:okJs l (js.map (·.1))=true) (hmk:∀ x∈js,∃ oj,l[x.1]?=some oj∧zAs P oj x.2.1 x.2.2) {f:Nat→Bool} {gs:Nat→Nat} {w1:World} (hb:Below w.heap.size w w1) (hfl:Flo V N w1 js f gs) {k:Nat}
  (hk:k∈js.map (·.1)) (hf:f k=false) {fu:Nat} (hfu:order.length+((js.map (·.1)).filter fun j=>!f j).length+tail.length=fu+1)
  (ih:∀ (f':Nat→Bool) (gs':Nat→Nat) (w2:World),((js.map (·.1)).filter fun j=>!f' j).length<((js.map (·.1)).filter fun j=>!f j).length→Below w.heap.size w w2→Flo V N w2 js f' gs' →
   wpR P l.toArray Q (XE V0 N) (order.length+((js.map (·.1)).filter fun j=>!f' j).length+tail.length) (Vq listed ((js.map (·.1)).filter f')) (YG l (VY gs') a ((js.map (·.1)).filter f')) w2) :
  wpS P l Q (XE V0 N) k fu (Vq listed ((js.map (·.1)).filter f)) (YG l (VY gs) a ((js.map (·.1)).filter f)) w1:=by
 have J:=zBp hj
 obtain ⟨x,hx,rfl⟩:=zE2 hk
 obtain ⟨oj,hoj,gj,hmj⟩:=hmk x hx
 have hlt:=J.lt _ hk
 have e:=Ux (h:=hlt) hoj
 subst e
 refine ⟨hlt,by simp [Region.wanted,gj],?_⟩
 unfold Oper.wp
 rw [hmj]
 have hal:Below w1.heap.size w1 (w1.alloc (.cells x.2.2 x.2.1)):=(Below.refl _ w1).alloc (Nat.le_refl _) _
 have hVlt:∀ b,V b→b<w1.heap.size:=fun b hb'=>Nat.lt_of_lt_of_le (hF.lt b hb') hb.size
 refine ⟨Zj hal (Nat.le_trans hF.size hb.size),?_⟩
 have hcd:=jU (f:=f) (f':=fun k=>if k=x.1 then true else f k) J.nodup hk hf (if_pos rfl) (fun k hne=>if_neg hne)
 have:=ih (fun k=>if k=x.1 then true else f k) (je gs x.1 w1.heap.size) (w1.alloc (.cells x.2.2 x.2.1)) (by omega) (Za hb hal) ⟨fun y hy hfy=>?_,fun y hy z hz hfy hfz hne=>?_⟩
 ·rw [←zD5 (f:=f) (f':=fun k=>if k=x.1 then true else f k) hk (if_pos rfl) (fun k hne=>if_neg hne),zC0,
   Gm l (VY gs) x.1 _ f (fun k=>if k=x.1 then true else f k) _ a J.nodup hk hf (if_pos rfl) (fun k _ hne=>if_neg hne) (fun k hk' hne t e=>J.dst _ hk k hk' (fun e=>hne e.symm) t e),Gs hoj] at this
  rwa [show fu=order.length+((js.map (·.1)).filter fun j=>!(if j=x.1 then true else f j)).length+tail.length by omega]
 ·by_cases e:y.1=x.1
  ·have exy:y=x:=by
    refine Classical.byContradiction fun hne=>?_
    obtain ⟨i,hi,rfl⟩:=List.getElem_of_mem hx
    obtain ⟨i',hi',rfl⟩:=List.getElem_of_mem hy
    have hnd:=List.pairwise_iff_getElem.1 J.nodup
    by_cases c:i<i'
    ·exact hnd i i' (by simpa using hi) (by simpa using hi') c (by simpa using e.symm)
    ·by_cases c':i'<i
     ·exact hnd i' i (by simpa using hi') (by simpa using hi) c' (by simpa using e)
     ·obtain rfl:i=i':=by omega
      exact hne rfl
   subst exy
   have eg:je gs y.1 w1.heap.size y.1=w1.heap.size:=if_pos rfl
   rw [eg]
   exact ⟨Blk.new w1 y.2.1 y.2.2,Nat.le_trans hF.size hb.size,fun hv=>Nat.lt_irrefl _ (hVlt _ hv)⟩
  ·have eg:je gs x.1 w1.heap.size y.1=gs y.1:=if_neg e
   rw [eg]
   rw [if_neg e] at hfy
   obtain ⟨b1,b2,b3⟩:=hfl.blk y hy hfy
   exact ⟨b1.below hal b1.lt,b2,b3⟩
 ·by_cases e1:y.1=x.1
  ·have e2:z.1≠x.1:=fun e2=>hne (e1.trans e2.symm)
   rw [if_neg e2] at hfz
   have:=(hfl.blk z hz hfz).1.lt
   unfold je
   rw [if_pos e1,if_neg e2]
   omega
  ·rw [if_neg e1] at hfy
   have hyl:=(hfl.blk y hy hfy).1.lt
   by_cases e2:z.1=x.1
   ·unfold je
    rw [if_neg e1,if_pos e2]
    omega
   ·rw [if_neg e2] at hfz
    unfold je
    rw [if_neg e1,if_neg e2]
    exact hfl.dif y hy z hz hfy hfz hne
theorem zAx {fuel:Nat} {L:Array Bool} {w:World} (M:Yx (XE V0 N)) (hne:Region.ready .any l.toArray L≠[]) (h:∀ k∈Region.ready .any l.toArray L,wpS P l Q (XE V0 N) k fuel L a w):wpR P l.toArray Q (XE V0 N) (fuel+1) L a w :=
 ⟨fun h0=>absurd h0 hne,fun k hk=>wpS_op M (h k hk)⟩
theorem zD8 {L:Array Bool} (h:(Region.ready .any l.toArray L).contains i=true):Region.ready .any l.toArray L≠[]:=fun e=>by rw [e] at h;simp at h
theorem Ku (hh:hs.contains i=true) (ho:l[i]?=some o) (hF:Hid (X5 V0 N V w))
  (h:∀ (_:Region.noSelect l.toArray=true) (_:i<l.length),KG l hs tail (js.map (·.1)) rest (listed.setIfInBounds i true)=true→okJs l (js.map (·.1))=true→(∀ x∈js,∃ oj,l[x.1]?=some oj∧zAs P oj x.2.1 x.2.2)→(∀ j∈js.map (·.1),Vn l i j=true)→i ∉ js.map (·.1) →
   ∀ (f:Nat→Bool) (gs:Nat→Nat) (w1:World),Below w.heap.size w w1→Flo V N w1 js f gs →
   wpS P l Q (XE V0 N) i (rest.length+((js.map (·.1)).filter fun j=>!f j).length+tail.length) (Vq listed ((js.map (·.1)).filter f)) (YG l (VY gs) a ((js.map (·.1)).filter f)) w1):wpZ P l hs tail Q V0 N js (i :: rest) listed V a w:=by
 intro hn hok hj hmk f gs w1 hb hfl
 obtain ⟨C,hr⟩:=JP hok
 obtain ⟨m,hm⟩:∃ m,m=((js.map (·.1)).filter fun j=>!f j).length:=⟨_,rfl⟩
 induction m using Nat.strongRecOn generalizing f gs w1 with
 | ind m ih =>
  subst hm
  rw [show (i :: rest).length+((js.map (·.1)).filter fun j=>!f j).length+tail.length=rest.length+((js.map (·.1)).filter fun j=>!f j).length+tail.length+1 by simp only [List.length_cons];omega]
  refine zAx (Zb V0 N) (zD8 (C.rd f)) fun k hk=>?_
  rcases C.hv hh f k hk with rfl | ⟨hkj,hkf⟩
  ·exact h hn C.lt hr hj hmk C.ap C.nj f gs w1 hb hfl
  ·refine jA (order:=i :: rest) (tail:=tail) hF.out hj hmk hb hfl hkj hkf (by simp only [List.length_cons];omega) fun f' gs' w2 hlt hb2 hfl2=>?_
   exact ih _ hlt f' gs' w2 hb2 hfl2 rfl
theorem Y0 {f:FuncId} {vals:Array Value} (hh:hs.contains i=true) (ho:l[i]?=some o) (hw:Region.wanted o (yielded l.toArray a.tmps)=true) (hF:Hid (X5 V0 N V w))
  (hrun:∀ w,(execOp a.eval o).run P w= .ok (.enter f vals) w)
  (h:∀ w1,Below w.heap.size w w1→Calls P f vals w1 fun e w'=>∃ v V',e= .returned v∧Moved V V' w1 w'∧(∀ b,V' b→b<w'.heap.size)∧wpZ P l hs tail Q V0 N js rest (listed.setIfInBounds i true) V' (a.put o.dst v) w'):wpZ P l hs tail Q V0 N js (i :: rest) listed V a w:=by
 refine Ku hh ho hF fun hn hi hr hj hmk hap hnj f' gs w1 hb hfl=>?_
 have e:=Ux (h:=hi) ho
 subst e
 have hsel:∀ cs b,l[i].op≠.select cs b:=fun cs b=>Region.noSelect_spec hn i l[i] cs b (by rw [List.getElem?_toArray];exact ho)
 have hx:=XN (a:=a) (VY gs) hsel ho _ (Xi (f:=f') hap)
 refine zCm hi (by rw [hx.2 _ rfl];exact hw) ((h w1 hb).mono ?_) (fun w=>by rw [hx.1];exact hrun w)
 rintro e w' ⟨v,V',rfl,hm,hlt,hz⟩
 refine ⟨v,rfl,Z0 (Zo hF.out hb) hm,?_⟩
 have:=hz hn hr hj hmk f' gs w' (Below.refl _ _) (Kj hfl hm)
 rwa [←Jb (fun hm=>hnj (List.mem_filter.1 hm).1),←VU ho (Xi (f:=f') hap)] at this
theorem GE (hh:hs.contains i=true) (ho:l[i]?=some o) (hw:Region.wanted o (yielded l.toArray a.tmps)=true) (hF:Hid (X5 V0 N V w))
  (h:∀ w1,Below w.heap.size w w1→∃ v w' V',(execOp a.eval o).run P w1= .ok (.value v) w'∧Moved V V' w1 w'∧(∀ b,V' b→b<w'.heap.size)∧wpZ P l hs tail Q V0 N js rest (listed.setIfInBounds i true) V' (a.put o.dst v) w'):wpZ P l hs tail Q V0 N js (i :: rest) listed V a w:=by
 refine Ku hh ho hF fun hn hi hr hj hmk hap hnj f' gs w1 hb hfl=>?_
 have e:=Ux (h:=hi) ho
 subst e
 have hsel:∀ cs b,l[i].op≠.select cs b:=fun cs b=>Region.noSelect_spec hn i l[i] cs b (by rw [List.getElem?_toArray];exact ho)
 have hx:=XN (a:=a) (VY gs) hsel ho _ (Xi (f:=f') hap)
 obtain ⟨v,w',V',hrun,hm,hlt,hz⟩:=h w1 hb
 refine ⟨hi,by rw [hx.2 _ rfl];exact hw,?_⟩
 unfold Oper.wp
 rw [hx.1,hrun]
 refine ⟨Z0 (Zo hF.out hb) hm,?_⟩
 have:=hz hn hr hj hmk f' gs w' (Below.refl _ _) (Kj hfl hm)
 rwa [←Jb (fun hm=>hnj (List.mem_filter.1 hm).1),←VU ho (Xi (f:=f') hap)] at this
theorem Gd {t e:TypeId} {size bytes base n:Nat} {z v:Value} {xs news:List Value} {A:Option Addr} {m c:Nat} {o:Oper} {w:World} (s x:Operand) (hop:o.op= .call { callee:=.builtin .append,args:=#[s,x],argTypes:=#[t,t] }) (E:JG P t e size bytes z) (hs:a.eval s=v) (hx:a.eval x= .slice A m c)
  (hown:w.ownsRow base e size v n xs) (hr:Rd w size A m news) (h1:∀ u∈news,u.oneCell'=true) (hbytes:(n+m)*(bytes+1)≤140737488355328) (hbase:base≤w.heap.size) :
  ∃ v' w',(execOp a.eval o).run P w= .ok (.value v') w'∧w'.ownsRow base e size v' (n+m) (xs++news)∧w.grownBy w' v.ownBlock∧(v'.ownBlock=v.ownBlock∨v'.ownBlock=some w.heap.size):=by
 obtain ⟨v',w',hrun,h2,h3,h4⟩:=Jw (P:=P) (c:=c) E o.type hown hr h1 hbytes hbase
 refine ⟨v',w',?_,h2,h3,h4⟩
 unfold execOp
 simp only [hop,resolve,invoke,builtin,Sem.run_bind,Sem.run_pure,Result.andThen_ok,List.map_toArray,List.map_cons,List.map_nil,hs,hx,hrun]
theorem JQ {t e:TypeId} {size bytes base n:Nat} {z v:Value} {xs news:List Value} {A:Option Addr} {m c:Nat} (hh:hs.contains i=true) (ho:l[i]?=some o) (hw:Region.wanted o (yielded l.toArray a.tmps)=true) (s x:Operand) (hop:o.op= .call { callee:=.builtin .append,args:=#[s,x],argTypes:=#[t,t] })
  (E:JG P t e size bytes z) (hs':a.eval s=v) (hx':a.eval x= .slice A m c) (hF:Hid (X5 V0 N V w)) (hown:w.ownsRow base e size v n xs) (hr:Rd w size A m news) (h1:∀ u∈news,u.oneCell'=true) (hbytes:(n+m)*(bytes+1)≤140737488355328) (hbase:base≤w.heap.size)
  (hV:∀ b,v.ownBlock=some b→V b)
  (h:∀ w1 v' w',Below w.heap.size w w1→w'.ownsRow base e size v' (n+m) (xs++news)→Moved V (fun b=>V b∨v'.ownBlock=some b) w1 w'→(∀ b,(V b∨v'.ownBlock=some b)→b<w'.heap.size)→wpZ P l hs tail Q V0 N js rest (listed.setIfInBounds i true) (fun b=>V b∨v'.ownBlock=some b) (a.put o.dst v') w'):wpZ P l hs tail Q V0 N js (i :: rest) listed V a w:=by
 refine Ku hh ho hF fun hn hi hr' hj hmk hap hnj f' gs w1 hb hfl=>?_
 have e:=Ux (h:=hi) ho
 subst e
 have hsel:∀ cs b,l[i].op≠.select cs b:=fun cs b=>Region.noSelect_spec hn i l[i] cs b (by rw [List.getElem?_toArray];exact ho)
 have hx:=XN (a:=a) (VY gs) hsel ho _ (Xi (f:=f') hap)
 obtain ⟨v',w',hrun,ho',hg,hblk⟩:=Gd (P:=P) s x hop E hs' hx' (ZM hown hb (Nat.le_refl _)) (hr.below hb) h1 hbytes (Nat.le_trans hbase hb.size)
 have hm:Moved V (fun b=>V b∨v'.ownBlock=some b) w1 w':=JO (Vx (F:=V) hg hV) fun b hb'=>by
  rcases hb' with h | h
  ·exact .inl h
  ·rcases hblk with h2 | h2
   ·exact .inl (hV b (h2.symm.trans h))
   ·rw [h2] at h
    injection h with h
    exact .inr (by omega)
 have hlt:∀ b,(V b∨v'.ownBlock=some b)→b<w'.heap.size:=fun b hb'=>by
  rcases hb' with h | h
  ·have:=hF.out.lt b h
   have:=hb.size
   have:=hg.size
   omega
  ·exact (ho'.lt b h).2
 have hz:=h w1 v' w' hb ho' hm hlt
 refine ⟨hi,by rw [hx.2 _ rfl];exact hw,?_⟩
 unfold Oper.wp
 rw [hx.1,hrun]
 refine ⟨Z0 (Zo hF.out hb) hm,?_⟩
 have:=hz hn hr' hj hmk f' gs w' (Below.refl _ _) (Kj hfl hm)
 rwa [←Jb (fun hm=>hnj (List.mem_filter.1 hm).1),←VU ho (Xi (f:=f') hap)] at this
theorem Xp (jd:List (Option Tmp × Nat)) (hjd:((js.map (·.1)).map fun j=>(Y8 l j,j))=jd) (hF:Hid (X5 V0 N V w))
  (h:∀ (gs:Nat→Nat) (w1:World),Below w.heap.size w w1→Flo V N w1 js (fun _=>true) gs→wpO P l hs Q (XE V0 N) tail (Vq listed (js.map (·.1))) (Jq a (VY gs) jd) w1):wpZ P l hs tail Q V0 N js [] listed V a w:=by
 intro hn hok hj hmk f gs w1 hb hfl
 unfold KG at hok
 rw [Bool.and_eq_true,List.all_eq_true] at hok
 obtain ⟨hok,hk⟩:=hok
 obtain ⟨m,hm⟩:∃ m,m=((js.map (·.1)).filter fun j=>!f j).length:=⟨_,rfl⟩
 induction m using Nat.strongRecOn generalizing f gs w1 with
 | ind m ih =>
  subst hm
  have h1:=hok _ (Ke f (js.map (·.1)))
  by_cases hall:∀ j∈js.map (·.1),f j=true
  ·have e1:(js.map (·.1)).filter f=js.map (·.1):=List.filter_eq_self.2 hall
   have e2:(js.map (·.1)).filter (fun j=>!f j)=[]:=List.filter_eq_nil_iff.2 fun j hj'=>by rw [hall j hj'];exact Bool.false_ne_true
   rw [e1,e2,KU,hjd]
   have:=h gs w1 hb ⟨fun x hx _=>hfl.blk x hx (hall _ (List.mem_map.2 ⟨x,hx,rfl⟩)),fun x hx y hy _ _ hne=>hfl.dif x hx y hy (hall _ (List.mem_map.2 ⟨x,hx,rfl⟩)) (hall _ (List.mem_map.2 ⟨y,hy,rfl⟩)) hne⟩ hn hk
   simpa using this
  ·have hns:¬((js.map (·.1)).all fun j=>((js.map (·.1)).filter f).contains j)=true:=fun h0=>hall fun j hj'=>by
    have:=List.all_eq_true.1 h0 j hj'
    exact (List.mem_filter.1 (List.contains_iff_mem.1 this)).2
   rw [Bool.or_eq_true] at h1
   replace h1:=h1.resolve_left hns
   rw [Bool.and_eq_true] at h1
   obtain ⟨hne0,h2⟩:=h1
   have hne:Region.ready .any l.toArray (Vq listed ((js.map (·.1)).filter f))≠[]:=by simpa using hne0
   rw [List.all_eq_true] at h2
   have hpos:0<((js.map (·.1)).filter fun j=>!f j).length:=by
    obtain ⟨j,hj'⟩:=Classical.not_forall.1 hall
    obtain ⟨hj1,hj2⟩:=Classical.not_imp.1 hj'
    exact List.length_pos_of_mem (List.mem_filter.2 ⟨hj1,by simp [Bool.eq_false_iff.2 hj2]⟩)
   obtain ⟨fu,hfu⟩:∃ fu,([]:List Nat).length+((js.map (·.1)).filter fun j=>!f j).length+tail.length=fu+1:=⟨((js.map (·.1)).filter fun j=>!f j).length+tail.length-1,by simp only [List.length_nil];omega⟩
   rw [hfu]
   refine zAx (Zb V0 N) hne fun k hk'=>?_
   have h3:=h2 k hk'
   simp only [Bool.and_eq_true,Bool.not_eq_true',List.contains_iff_mem] at h3
   have hkf:f k=false:=by
    cases hf:f k
    ·rfl
    ·have:=h3.2
     rw [List.contains_iff_mem.2 (List.mem_filter.2 ⟨h3.1,hf⟩)] at this
     cases this
   exact jA (order:=[]) (tail:=tail) hF.out hj hmk hb hfl h3.1 hkf hfu fun f' gs' w2 hlt hb2 hfl2=>ih _ hlt f' gs' w2 hb2 hfl2 rfl
end
def YU (V:Nat→Prop) (w w':World):Nat→Prop:=fun b=>V b∨(w.heap.size≤b∧b<w'.heap.size)
theorem ZU {V:Nat→Prop} {w w':World} (h:Below w.heap.size w w'):Moved V (YU V w w') w w':=JO (Zp (F:=V) h) fun _ hb=>hb.elim .inl fun h=>.inr h.1
theorem YZ {V0 V:Nat→Prop} {N:Nat} {w w':World} (hF:X5 V0 N V w) (h:Below w.heap.size w w'):∀ b,YU V w w' b→b<w'.heap.size:=fun b hb=>hb.elim (fun e=>Nat.lt_of_lt_of_le (hF.lt b e) h.size) fun e=>e.2
theorem zEd:(Tryz.prog.info? 166).map (fun i=>(i.zero,i.size,i.bytes))=some (some (.slice none 0 0),1,24):=by kernel_rfl
theorem zEs {w:World}:((isAgg 166).run Tryz.prog w)= .ok false w:=by simp [isAgg,run_underlying Tryz.underlying166]
theorem zDj {w:World}:((sizeOf 166).run Tryz.prog w)= .ok 1 w:=by
 obtain ⟨i0,hi,hz0,hz1,hz2⟩:=info_parts zEd
 simp [sizeOf,typeInfo,hi,hz1]
theorem zFc {w:World} {x y z:Value} {k:Nat} (h:k<3):(Instr.index 229 (.agg #[x,y,z]) (.int .i64 (k:Int))).run Tryz.prog w= .ok (if k=0 then x else if k=1 then y else z) w :=
 Vm (i:=k) Tryz.underlying229 zEs zDj h (by
  rcases (show k=0∨k=1∨k=2 by omega) with rfl | rfl | rfl <;> rfl)
def VG (r:Yb) (k:Nat):List (Int × Nat):=if k=0 then r.a else if k=1 then r.b else r.c
end Go.Proofs.YtdhhdplholkmdaaGreat
namespace Go.Proofs.YtdhhdplholkmdaaGreat
def zAc (ts:List (Int × Nat)):List Nat:=ts.flatMap fun t=>[t.1.toNat,t.2]
def zt (ts:List (Int × Nat)):List Nat:=ts.length :: zAc ts
def numR (r:Yb):List Nat:=zt (VG r 0)++zt (VG r 1)++zt (VG r 2)
def Uf (p:Nat) (pub vars:Int) (rows:List Yb):List Nat:=[p,pub.toNat,vars.toNat,rows.length]++rows.flatMap numR
def Ye (p:Nat) (pub vars:Int) (rows:List Yb):Nat:=if ZZ p pub vars rows then spH 21 (Uf p pub vars rows) else 0
def yQ (p:Nat) (pub vars:Int) (rows:List Yb) (i:Nat):List Nat:=[p,pub.toNat,vars.toNat,rows.length]++(rows.take i).flatMap numR
def kF (base:List Nat) (r:Yb):Nat→List Nat
 | 0=>base
 | j+1=>kF base r j++zt (VG r j)
def zu (base:List Nat) (ts:List (Int × Nat)) (t:Nat):List Nat:=base++ts.length :: zAc (ts.take t)
theorem yn (p:Nat) (pub vars:Int) (rows:List Yb) {i:Nat} (h:i<rows.length):yQ p pub vars rows (i+1)=kF (yQ p pub vars rows i) rows[i] 3:=by
 unfold yQ
 rw [List.take_succ_eq_append_getElem h,List.flatMap_append]
 simp [kF,numR]
theorem zP (base:List Nat) (ts:List (Int × Nat)):zu base ts ts.length=base++zt ts:=by simp [zu,zt]
theorem zX (base:List Nat) (ts:List (Int × Nat)):zu base ts 0=base++[ts.length]:=by simp [zu,zAc]
theorem yp (base:List Nat) (ts:List (Int × Nat)) {t:Nat} (h:t<ts.length):zu base ts (t+1)=zu base ts t++[(ts.getD t (0,0)).1.toNat,(ts.getD t (0,0)).2]:=by
 unfold zu zAc
 rw [List.take_succ_eq_append_getElem h,List.flatMap_append,List.getD_eq_getElem?_getD,List.getElem?_eq_getElem h]
 simp
theorem jx (ts:List (Int × Nat)):(zAc ts).length=2*ts.length:=by
 induction ts with
 | nil=>rfl
 | cons t ts ih =>
  show ([t.1.toNat,t.2]++zAc ts).length=_
  rw [List.length_append,ih]
  simp
  omega
theorem xG (base:List Nat) (ts:List (Int × Nat)) {t:Nat} (h:t≤ts.length):(zu base ts t).length=base.length+1+2*t:=by
 unfold zu
 rw [List.length_append,List.length_cons,jx,List.length_take,Nat.min_eq_left h]
 omega
theorem z7 (p:Nat) (pub vars:Int) (rows:List Yb):yQ p pub vars rows rows.length=Uf p pub vars rows:=by simp [yQ,Uf]
end Go.Proofs.YtdhhdplholkmdaaGreat
namespace Go.Proofs.YtdhhdplholkmdaaGreat
open Go.RowKit
def KD (l:List (Int × Nat)) (j:Nat):Int:=if j=0 then -1 else (l.getD (j-1) (0,0)).1
theorem ja {p:Nat} {n:Int} {l:List (Int × Nat)} {j:Nat} (hb:∀ k<j,X0 p n l k=false) :
  X0 p n l j=(decide ((l.getD j (0,0)).1≤KD l j)||decide (n≤(l.getD j (0,0)).1)||(l.getD j (0,0)).2 == 0||decide (p≤(l.getD j (0,0)).2)):=by
 have h1:-1≤KD l j:=by
  unfold KD
  split
  ·omega
  ·have h:=hb (j-1) (by omega)
   unfold X0 at h
   simp only [Bool.or_eq_false_iff,decide_eq_false_iff_not] at h
   omega
 unfold X0
 have e:(decide ((l.getD j (0,0)).1<0)||(decide (0<j)&&decide ((l.getD j (0,0)).1≤(l.getD (j-1) (0,0)).1)))=decide ((l.getD j (0,0)).1≤KD l j):=by
  rw [Bool.eq_iff_iff]
  simp only [Bool.or_eq_true,Bool.and_eq_true,decide_eq_true_eq]
  unfold KD at h1 ⊢
  split
  ·omega
  ·rename_i h0
   rw [if_neg h0] at h1
   omega
 rw [←e]
 cases decide ((l.getD j (0,0)).1<0) <;> cases decide (n≤(l.getD j (0,0)).1) <;> simp
set_option maxRecDepth 100000 in
set_option maxHeartbeats 1000000 in
theorem UN (p:Nat) (pub n:Int) (rows:Value) (A:Option Addr) (len c:Nat) (l:List (Int × Nat)) (w:World) (hl:RLin w [.slice A len c] l) (hs:slc rows) :
  Calls Tryz.prog 267 #[Yz p pub n rows, .slice A len c] w fun e w'=>e= .returned (.bool (Xb p n l))∧Below w.heap.size w w':=by
 obtain ⟨A',n',c',he,hlen,hnc,hmx,hrd⟩:=hl
 simp at he
 obtain ⟨rfl,rfl,rfl⟩:=he
 obtain ⟨As,ns,cs,rfl⟩:=hs
 subst hlen
 unfold Yz
 have kt:=Blk.new w 25 #[.int .u64 (p:Int), .int .i64 pub, .int .i64 n, .slice As ns cs]
 have hb0:Below w.heap.size w (w.alloc (.cells #[.int .u64 (p:Int), .int .i64 pub, .int .i64 n, .slice As ns cs] 25)):=(Below.refl _ _).alloc (Nat.le_refl _) _
 have g0:(l.length:Int)≤9223372036854775807:=by
  have h4:=hmx
  simp [maxLen] at h4
  omega
 go_enter Tryz.func267,Tryz.ntmps267
 go_wp2_with fail
 generalize w.alloc _=w1 at kt hb0 ⊢
 go_loopw [5,10] (fun u i wr=>∃ (j:Nat) (la:Int),j≤l.length∧i= .int .i64 (j:Int)∧u= .int .i64 la∧Hid (la=KD l j)∧Blk wr w.heap.size 25 #[.int .u64 (p:Int), .int .i64 pub, .int .i64 n, .slice As ns cs]∧Below w.heap.size w wr∧Hid (∀ k<j,X0 p n l k=false))
  (fun _ i _=>l.length-(intOf i).toNat)
 case atStart=>exact ⟨0,-1,Nat.zero_le _,rfl,rfl,rfl,kt,hb0,fun k hk=>by omega⟩
 case round =>
  clear kt hb0
  obtain ⟨j,la,hj,rfl,rfl,HLA,kt,hb0,HB⟩:=hrel
  by_cases hlt:j<l.length
  ·have HL:=Lib.hid hlt
   obtain ⟨b,q,rfl⟩:=hrd.base (by omega) (by omega)
   have hrd':=hrd.below Vk hb0
   obtain ⟨c1,c2⟩:=RLin.at_ hrd' hlt
   have hbl:=World.block_lt_of_cell? _ _ c1
   simp only at hbl
   have g1:(0:Int)≤(j:Int):=by omega
   have g2:(j:Int)<(l.length:Int):=by omega
   have HD:=Lib.hid (ja HB.out)
   have HNX:=Lib.hid (show (l.getD j (0,0)).1=KD l (j+1) by simp [KD])
   rw [←HLA.out] at HD
   revert c1 c2 HD HNX
   generalize (l.getD j (0,0)).1=x
   generalize (l.getD j (0,0)).2=y
   intro c1 c2 HD HNX
   have ct:=kt.cell
   have lt:=kt.lt
   clear hrd hrd' HLA
   by_cases z1:x≤la
   ·have d1:=decide_eq_true z1
    go_wp2_with fail
    go_ret
    exact ⟨by rw [Y9 HL.out (HD.out.trans (by simp [d1]))];rfl,hb0.alloc hb0.size _⟩
   ·have d1:=decide_eq_false z1
    by_cases z2:n≤x
    ·have d2:=decide_eq_true z2
     go_wp2_with fail
     go_ret
     exact ⟨by rw [Y9 HL.out (HD.out.trans (by simp [d1,d2]))];rfl,hb0.alloc hb0.size _⟩
    ·have d2:=decide_eq_false z2
     by_cases z4:y=0
     ·have HY:=Lib.hid z4
      subst z4
      go_wp2_with fail
      go_ret
      exact ⟨by rw [Y9 HL.out (HD.out.trans (by simp [d1,d2]))];rfl,hb0.alloc hb0.size _⟩
     ·have d4:((y:Int) == 0)=false:=by rw [beq_eq_false_iff_ne];omega
      have d4':(y == 0)=false:=by rw [beq_eq_false_iff_ne];exact z4
      by_cases z5:p≤y
      ·have d5:decide ((p:Int)≤(y:Int))=true:=decide_eq_true (by omega)
       have d5':=decide_eq_true z5
       go_wp2_with fail
       go_ret
       exact ⟨by rw [Y9 HL.out (HD.out.trans (by simp [d1,d2,d4',d5']))];rfl,hb0.alloc hb0.size _⟩
      ·have d5:decide ((p:Int)≤(y:Int))=false:=decide_eq_false (by omega)
       have d5':=decide_eq_false z5
       have HE:=Lib.hid (show X0 p n l j=false from HD.out.trans (by simp [d1,d2,d4',d5']))
       clear d4' d5'
       go_wp2_with fail
       go_roundw
       case rel=>exact ⟨j+1,x,by omega,by go_num,rfl,HNX.out,kt.alloc _,hb0.alloc hb0.size _,Kp HB.out HE.out⟩
       case measure=>simp [intOf];omega
  ·obtain rfl:l.length=j:=by omega
   go_wp2
   go_ret
   exact ⟨by rw [GR HB.out];rfl,hb0⟩
set_option maxRecDepth 100000 in
set_option maxHeartbeats 1000000 in
theorem zCt (p:Nat) (pub vars:Int) (rows:Value) (r:Yb) (x y z:Value) (w:World) (hx:RLin w [x] r.a) (hy:RLin w [y] r.b) (hz:RLin w [z] r.c) (hs:slc rows) :
  Calls Tryz.prog 223 #[Yz p pub vars rows, .agg #[x,y,z]] w fun e w'=>e= .returned (.bool (Vb p vars r))∧Below w.heap.size w w':=by
 obtain ⟨A1,n1,c1,rfl⟩:=RSl.slc hx
 obtain ⟨A2,n2,c2,rfl⟩:=RSl.slc hy
 obtain ⟨A3,n3,c3,rfl⟩:=RSl.slc hz
 have HX:=Lib.hid (fun w' (hb:Below w.heap.size w w')=>UN p pub vars rows _ _ _ r.a w' (Z6 _ _ _ _ hb hx) hs)
 have HY:=Lib.hid (fun w' (hb:Below w.heap.size w w')=>UN p pub vars rows _ _ _ r.b w' (Z6 _ _ _ _ hb hy) hs)
 have HZ:=Lib.hid (fun w' (hb:Below w.heap.size w w')=>UN p pub vars rows _ _ _ r.c w' (Z6 _ _ _ _ hb hz) hs)
 obtain ⟨As,ns,cs,rfl⟩:=hs
 have hR:Vb p vars r=(Xb p vars r.a&&Xb p vars r.b&&Xb p vars r.c):=rfl
 rw [hR]
 clear hR hx hy hz
 generalize Xb p vars r.a=b1 at *
 generalize Xb p vars r.b=b2 at *
 generalize Xb p vars r.c=b3 at *
 unfold Yz at *
 obtain ⟨kt,kr,hb0,-⟩:=Xn w 25 168 #[.int .u64 (p:Int), .int .i64 pub, .int .i64 vars, .slice As ns cs] #[.slice A1 n1 c1, .slice A2 n2 c2, .slice A3 n3 c3]
 go_enter Tryz.func223,Tryz.ntmps223
 go_wp2_with fail
 generalize (w.alloc _).alloc _=w0 at kt kr hb0 ⊢
 refine (HX.out _ hb0).mono ?_
 rintro e w1 ⟨rfl,hb1⟩
 replace kt:=kt.below hb1 kt.lt
 replace kr:=kr.below hb1 kr.lt
 replace hb0:=Za hb0 hb1
 clear hb1
 have ct:=kt.cell
 have cr:=kr.cell
 cases b1
 ·go_wp2
  go_ret
  exact ⟨rfl,hb0⟩
 go_wp2_with fail
 refine (HY.out _ hb0).mono ?_
 rintro e w2 ⟨rfl,hb2⟩
 replace kt:=kt.below hb2 kt.lt
 replace kr:=kr.below hb2 kr.lt
 replace hb0:=Za hb0 hb2
 clear hb2 ct cr
 have ct:=kt.cell
 have cr:=kr.cell
 cases b2
 ·go_wp2
  go_ret
  exact ⟨rfl,hb0⟩
 go_wp2_with fail
 refine (HZ.out _ hb0).mono ?_
 rintro e w3 ⟨rfl,hb3⟩
 go_wp2
 go_ret
 exact ⟨by simp,Za hb0 hb3⟩
set_option maxRecDepth 100000 in
set_option maxHeartbeats 1000000 in
theorem xI (p:Nat) (w:World) (hp:okP p=false) :
  Calls Tryz.prog 224 #[fv p] w fun e w'=>e= .returned (.bool false)∧Below w.heap.size w w':=by
 unfold okP at hp
 simp only [Bool.or_eq_false_iff,beq_eq_false_iff_ne] at hp
 obtain ⟨⟨⟨⟨⟨⟨h1,h2⟩,h3⟩,h4⟩,h5⟩,h6⟩,h7⟩:=hp
 have d1:((p:Int) == 17)=false:=by rw [beq_eq_false_iff_ne];omega
 have d2:((p:Int) == 97)=false:=by rw [beq_eq_false_iff_ne];omega
 have d3:((p:Int) == 193)=false:=by rw [beq_eq_false_iff_ne];omega
 have d4:((p:Int) == 257)=false:=by rw [beq_eq_false_iff_ne];omega
 have d5:((p:Int) == 12289)=false:=by rw [beq_eq_false_iff_ne];omega
 have d6:((p:Int) == 65537)=false:=by rw [beq_eq_false_iff_ne];omega
 have d7:((p:Int) == 18446744069414584321)=false:=by rw [beq_eq_false_iff_ne];omega
 clear h1 h2 h3 h4 h5 h6 h7
 unfold fv
 go_enter Tryz.func224,Tryz.ntmps224
 go_wp2_with fail
 go_ret
 exact ⟨rfl,(Below.refl _ _).alloc (Nat.le_refl _) _⟩
theorem xP (p:Nat) (w:World):Calls Tryz.prog 224 #[fv p] w fun e w'=>e= .returned (.bool (okP p))∧Below w.heap.size w w':=by
 cases h:okP p
 ·exact xI p w h
 ·exact XK p w h
set_option maxRecDepth 100000 in
set_option maxHeartbeats 1000000 in
theorem jW (p:Nat) (pub vars:Int) (rows:Value) (w:World) (hs:slc rows) :
  Calls Tryz.prog 222 #[Yz p pub vars rows] w fun e w'=>e= .returned (.bool (okP p&&!decide (pub<0)&&!decide (vars≤pub)&&!decide (65536<vars)))∧Below w.heap.size w w':=by
 have HV:=Lib.hid (fun w=>xP p w)
 obtain ⟨As,ns,cs,rfl⟩:=hs
 generalize okP p=b0 at *
 unfold Yz fv at *
 have kt:=Blk.new w 25 #[.int .u64 (p:Int), .int .i64 pub, .int .i64 vars, .slice As ns cs]
 have hb0:Below w.heap.size w (w.alloc (.cells #[.int .u64 (p:Int), .int .i64 pub, .int .i64 vars, .slice As ns cs] 25)):=(Below.refl _ _).alloc (Nat.le_refl _) _
 go_enter Tryz.func222,Tryz.ntmps222
 go_wp2_with fail
 generalize w.alloc _=w0 at kt hb0 ⊢
 refine (HV.out _).mono ?_
 rintro e w1 ⟨rfl,hb1⟩
 replace kt:=kt.below hb1 kt.lt
 replace hb0:=Za hb0 hb1
 clear hb1
 have ct:=kt.cell
 cases b0
 ·go_wp2
  go_ret
  exact ⟨rfl,hb0⟩
 by_cases z1:pub<0
 ·have d1:decide (0≤pub)=false:=decide_eq_false (by omega)
  have e1:=decide_eq_true z1
  go_wp2
  go_ret
  exact ⟨by simp [e1],hb0⟩
 have d1:decide (0≤pub)=true:=decide_eq_true (by omega)
 have e1:=decide_eq_false z1
 by_cases z2:vars≤pub
 ·have d2:decide (pub<vars)=false:=decide_eq_false (by omega)
  have e2:=decide_eq_true z2
  go_wp2
  go_ret
  exact ⟨by simp [e2],hb0⟩
 have d2:decide (pub<vars)=true:=decide_eq_true (by omega)
 have e2:=decide_eq_false z2
 by_cases z3:65536<vars
 ·have d3:decide (vars≤65536)=false:=decide_eq_false (by omega)
  have e3:=decide_eq_true z3
  go_wp2
  go_ret
  exact ⟨by simp [e3],hb0⟩
 have d3:decide (vars≤65536)=true:=decide_eq_true (by omega)
 have e3:=decide_eq_false z3
 go_wp2
 go_ret
 exact ⟨by simp [e1,e2,e3],hb0⟩
set_option maxRecDepth 100000 in
set_option maxHeartbeats 1000000 in
theorem zG (p:Nat) (pub vars:Int) (A:Option Addr) (n c:Nat) (rows:List Yb) (w:World) (hr:RSl 3 XI w [.slice A n c] rows) :
  Calls Tryz.prog 155 #[Yz p pub vars (.slice A n c)] w fun e w'=>e= .returned (.bool (ZZ p pub vars rows))∧Below w.heap.size w w':=by
 have HS:=Lib.hid (fun w=>jW p pub vars (.slice A n c) w ⟨_,_,_,rfl⟩)
 have HR:=Lib.hid (fun r x y z w hx hy hz=>zCt p pub vars (.slice A n c) r x y z w hx hy hz ⟨_,_,_,rfl⟩)
 obtain ⟨A',n',c',he,hlen,hnc,hmx,hrd⟩:=hr
 simp at he
 obtain ⟨rfl,rfl,rfl⟩:=he
 subst hlen
 have g0:(rows.length:Int)≤9223372036854775807:=by
  have h4:=hmx
  simp [maxLen] at h4
  omega
 have E:=Lib.hid (show ZZ p pub vars rows=((okP p&&!decide (pub<0)&&!decide (vars≤pub)&&!decide (65536<vars))&&!decide ((16384:Int)<(rows.length:Int))&&rows.all (Vb p vars)) from rfl)
 revert HS E
 generalize ZZ p pub vars rows=ans
 generalize (okP p&&!decide (pub<0)&&!decide (vars≤pub)&&!decide (65536<vars))=b0
 intro HS E
 unfold Yz at *
 have kt:=Blk.new w 25 #[.int .u64 (p:Int), .int .i64 pub, .int .i64 vars, .slice A rows.length c]
 have hb0:Below w.heap.size w (w.alloc (.cells #[.int .u64 (p:Int), .int .i64 pub, .int .i64 vars, .slice A rows.length c] 25)):=(Below.refl _ _).alloc (Nat.le_refl _) _
 go_enter Tryz.func155,Tryz.ntmps155
 go_wp2_with fail
 generalize w.alloc _=w0 at kt hb0 ⊢
 refine (HS.out _).mono ?_
 rintro e w1 ⟨rfl,hb1⟩
 replace kt:=kt.below hb1 kt.lt
 replace hb0:=Za hb0 hb1
 clear hb1
 have ct:=kt.cell
 cases b0
 ·go_wp2
  go_ret
  exact ⟨by rw [E.out];simp,hb0⟩
 by_cases z4:(16384:Int)<(rows.length:Int)
 ·have d4:=decide_eq_true z4
  go_wp2
  go_ret
  exact ⟨by rw [E.out];simp [d4],hb0⟩
 have d4:=decide_eq_false z4
 have E2:=Lib.hid (show ans=rows.all (Vb p vars) by rw [E.out,d4];simp)
 clear E
 go_wp2_with fail
 clear ct
 go_loopw [17] (fun i wr=>∃ j:Nat,j≤rows.length∧i= .int .i64 (j:Int)∧Blk wr w.heap.size 25 #[.int .u64 (p:Int), .int .i64 pub, .int .i64 vars, .slice A rows.length c]∧Below w.heap.size w wr∧Hid (∀ k<j,∀ h:k<rows.length,Vb p vars rows[k]=true))
  (fun i _=>rows.length-(intOf i).toNat)
 case atStart=>exact ⟨0,Nat.zero_le _,rfl,kt,hb0,fun k hk=>by omega⟩
 case round =>
  clear kt hb0
  obtain ⟨j,hj,rfl,kt,hb0,HB⟩:=hrel
  by_cases hlt:j<rows.length
  ·have HL:=Lib.hid hlt
   obtain ⟨b,q,rfl⟩:=hrd.base (by omega) (by omega)
   obtain ⟨cs,-,hc,x,y,z,rfl,hx1,hy1,hz1⟩:=(hrd.below ZG hb0).get hlt
   have h0:wr.cell? ⟨b,q+j*3,none⟩=some x:=hc 0 (by omega)
   have h1:wr.cell? ⟨b,q+j*3+1,none⟩=some y:=hc 1 (by omega)
   have h2:wr.cell? ⟨b,q+j*3+2,none⟩=some z:=hc 2 (by omega)
   have i1:(0:Int)≤(j:Int):=by omega
   have i2:(j:Int)<(rows.length:Int):=by omega
   have hbl:=World.block_lt_of_cell? _ _ h0
   simp only at hbl
   have HC:=Lib.hid (fun w' (hb:Below wr.heap.size wr w')=>HR.out rows[j] x y z w' (Z6 _ _ _ _ hb hx1) (Z6 _ _ _ _ hb hy1) (Z6 _ _ _ _ hb hz1))
   obtain ⟨A1,n1,c1,rfl⟩:=RSl.slc hx1
   obtain ⟨A2,n2,c2,rfl⟩:=RSl.slc hy1
   obtain ⟨A3,n3,c3,rfl⟩:=RSl.slc hz1
   have hal:=(Below.refl wr.heap.size wr).alloc (Nat.le_refl _) (.cells #[.slice A1 n1 c1, .slice A2 n2 c2, .slice A3 n3 c3] 168)
   have ct:=kt.cell
   have lt:=kt.lt
   clear hc hx1 hy1 hz1
   go_wp2_with fail
   refine (HC.out _ hal).mono ?_
   rintro e w3 ⟨rfl,hb3⟩
   have hb4:=Za hal hb3
   replace kt:=kt.below hb4 kt.lt
   replace hb0:=Za hb0 hb4
   clear hal hb3 hb4 h0 h1 h2 ct lt
   cases bo:Vb p vars rows[j]
   ·have HO:=Lib.hid bo
    clear bo
    go_wp2
    go_ret
    exact ⟨by rw [E2.out,List.all_eq_false.2 ⟨rows[j],List.getElem_mem HL.out,fun h=>Bool.noConfusion (HO.out.symm.trans h)⟩];rfl,hb0⟩
   ·have HO:=Lib.hid bo
    clear bo
    go_wp2
    go_roundw
    case rel =>
     refine ⟨j+1,by omega,by go_num,kt,hb0,fun k hk h=>?_⟩
     by_cases e:k<j
     ·exact HB.out k e h
     ·obtain rfl:k=j:=by omega
      exact HO.out
    case measure=>simp [intOf];omega
  ·obtain rfl:rows.length=j:=by omega
   go_wp2
   go_ret
   exact ⟨by rw [E2.out,List.all_eq_true.2 fun r hr=>by obtain ⟨k,hk,rfl⟩:=List.getElem_of_mem hr;exact HB.out k hk hk];rfl,hb0⟩
structure TabFor (L:YO) (pu:Nat) (vars:Int) (rows:List Yb):Prop where
 nr:L.rows=rows.length
 sec:vars=(L.secret:Int)+1+(pu:Int)
 small:(pu:Int)≤4294967296
def RRx (B:Nat) (w:World) (v:Value) (l:List (List Nat)):Prop:=(∀ q,v.ownBlock=some q→B≤q)∧∀ u:World,(∀ b,B≤b→b<w.heap.size→u.heap[b]?=w.heap[b]?)→RRows u [v] l
theorem RRx.mono {B C:Nat} {w:World} {v:Value} {l:List (List Nat)} (h:RRx B w v l) (hC:C≤B):RRx C w v l:=⟨fun q e=>Nat.le_trans hC (h.1 q e),fun u hu=>h.2 u fun b h1 h2=>hu b (by omega) h2⟩
structure U0 (p:Nat) (pub vars:Int) (rows:List Yb):Prop where
 pl:p<18446744073709551616
 pubI:0≤pub∧pub<9223372036854775808
 varI:0≤vars∧vars<9223372036854775808
 n:rows.length≤16384
 sides:∀ r∈rows,∀ k,k<3→(VG r k).length≤100000
 terms:∀ r∈rows,∀ k,k<3→∀ t∈VG r k,0≤t.1∧t.1<9223372036854775808∧t.2<18446744073709551616
 len:(Uf p pub vars rows).length≤1000000
theorem zAw {p:Nat} {pub vars:Int} {rows:List Yb} (h:U0 p pub vars rows):∀ x∈Uf p pub vars rows,x<18446744073709551616:=fun x hx=>by
 have h1:=h.pl
 have h2:=h.pubI
 have h3:=h.varI
 have h4:=h.n
 unfold Uf at hx
 rcases List.mem_append.1 hx with hx | hx
 ·simp only [List.mem_cons,List.not_mem_nil,or_false] at hx
  omega
 ·obtain ⟨r,hr,hx⟩:=List.mem_flatMap.1 hx
  have key:∀ k,k<3→x∈zt (VG r k)→x<18446744073709551616:=fun k hk hx=>by
   unfold zt zAc at hx
   rcases List.mem_cons.1 hx with rfl | hx
   ·have:=h.sides r hr k hk
    omega
   ·obtain ⟨t,ht,hx⟩:=List.mem_flatMap.1 hx
    have:=h.terms r hr k hk t ht
    simp only [List.mem_cons,List.not_mem_nil,or_false] at hx
    omega
  unfold numR at hx
  rcases List.mem_append.1 hx with hx | hx
  ·rcases List.mem_append.1 hx with hx | hx
   ·exact key 0 (by decide) hx
   ·exact key 1 (by decide) hx
  ·exact key 2 (by decide) hx
theorem jF (i:Nat):4+700000*i+200001*3≤4+700000*(i+1):=by omega
theorem ya {α:Type} {l:List α} {i:Nat} (d:α) (h:i<l.length):l.getD i d∈l:=by
 rw [List.getD_eq_getElem?_getD,List.getElem?_eq_getElem h]
 exact List.getElem_mem h
theorem zAt (w:World) (x y:Nat) (t:TypeId):Rd (w.alloc (.cells #[.int .u64 (x:Int), .int .u64 (y:Int)] t)) 1 (some ⟨w.heap.size,0,none⟩) 2 (U64 [x,y]) :=
 Rd.of_own (e:=t) (base:=w.heap.size) (c:=2) ⟨rfl, .inr ⟨w.heap.size,2,_,rfl,Nat.le_refl _,heap_alloc_new w _,Nat.le_refl _,by simp [maxLen],rfl,rfl⟩⟩
theorem J5 (w:World) (x y z u:Nat) (t:TypeId):(w.alloc (.cells #[.int .u64 (x:Int), .int .u64 (y:Int), .int .u64 (z:Int), .int .u64 (u:Int)] t)).ownsRow w.heap.size t 1 (.slice (some ⟨w.heap.size,0,none⟩) 4 4) 4 (U64 [x,y,z,u]) :=
 ⟨rfl, .inr ⟨w.heap.size,4,_,rfl,Nat.le_refl _,heap_alloc_new w _,Nat.le_refl _,by simp [maxLen],rfl,rfl⟩⟩
set_option maxRecDepth 100000 in
set_option maxHeartbeats 2000000 in
theorem jw (p:Nat) (pub vars:Int) (A:Option Addr) (R c:Nat) (rows:List Yb) (w:World) (hr:RSl 3 XI w [.slice A R c] rows) (hD:U0 p pub vars rows) (hok:ZZ p pub vars rows=true) :
  Calls Tryz.prog 117 #[Yz p pub vars (.slice A R c)] w fun e w'=>e= .returned (.int .u64 (Ye p pub vars rows:Int))∧Below w.heap.size w w':=by
 have HV:=Lib.hid (fun w1 (hb:Below w.heap.size w w1)=>by have:=zG p pub vars A R c rows w1 (ZQ ZG _ _ _ _ hb hr);rw [hok] at this;exact this)
 have HH:=Lib.hid (fun A1 n1 c1 w1 (h1:RWd w1 [.slice A1 n1 c1] (Uf p pub vars rows))=>yi 21 A1 n1 c1 (Uf p pub vars rows) w1 h1 (by simp [Uf]) hD.len)
 have hdv:Ye p pub vars rows=spH 21 (Uf p pub vars rows):=by unfold Ye;rw [if_pos hok]
 rw [hdv]
 obtain ⟨A',n',c',he,hln,hnc,hmx,hrd⟩:=hr
 simp at he
 obtain ⟨rfl,rfl,rfl⟩:=he
 obtain ⟨pb,rfl⟩:=Int.eq_ofNat_of_zero_le hD.pubI.1
 obtain ⟨vr,rfl⟩:=Int.eq_ofNat_of_zero_le hD.varI.1
 have hp2:=hD.pubI.2
 have hv2:=hD.varI.2
 have hRn:R≤16384:=by rw [←hln];exact hD.n
 have hDp:=hD.pl
 have y1:IntKind.u64.wrap (pb:Int)=(pb:Int):=by rw [IntKind.wrap_u64];omega
 have y2:IntKind.u64.wrap (vr:Int)=(vr:Int):=by rw [IntKind.wrap_u64];omega
 have y3:IntKind.u64.wrap (R:Int)=(R:Int):=by rw [IntKind.wrap_u64];omega
 have kt:=Blk.new w 25 #[.int .u64 (p:Int), .int .i64 (pb:Int), .int .i64 (vr:Int), .slice A R c]
 have hb0:Below w.heap.size w (w.alloc (.cells #[.int .u64 (p:Int), .int .i64 (pb:Int), .int .i64 (vr:Int), .slice A R c] 25)):=(Below.refl _ _).alloc (Nat.le_refl _) _
 have HR:=Lib.hid hln
 have HS:=Lib.hid hD.sides
 have HT:=Lib.hid hD.terms
 have H64:Hid (∀ x∈Uf p pb vr rows,x<18446744073709551616):=Lib.hid (zAw hD)
 clear hdv hln hnc hmx hok hp2 hv2 hD hDp
 unfold Yz at *
 go_enter Tryz.func117,Tryz.ntmps117
 go_wp2_with fail
 generalize w.alloc _=w0 at kt hb0 ⊢
 refine (HV.out w0 hb0).mono ?_
 rintro e w1 ⟨rfl,hb1⟩
 replace kt:=kt.below hb1 kt.lt
 replace hb0:=Za hb0 hb1
 clear hb1 HV
 have ct:=kt.cell
 have lt:=kt.lt
 have own0:=J5 w1 p pb vr R 22
 have hal0:=(Below.refl w1.heap.size w1).alloc (Nat.le_refl _) (.cells #[.int .u64 (p:Int), .int .u64 (pb:Int), .int .u64 (vr:Int), .int .u64 (R:Int)] 22)
 obtain ⟨PR,hPR⟩:∃ PR,PR=yQ p pb vr rows:=⟨_,rfl⟩
 have HP0:=Lib.hid (show PR 0=[p,pb,vr,R] by rw [hPR,←HR.out];simp [yQ])
 have HPN:=Lib.hid (show ∀ i (h:i<rows.length),PR (i+1)=kF (PR i) rows[i] 3 from fun i h=>by rw [hPR];exact yn p pb vr rows h)
 have HPF:=Lib.hid (show PR R=Uf p pb vr rows by rw [hPR,←HR.out];exact z7 p pb vr rows)
 clear hPR
 go_upto_region 5 with fail
 generalize w1.alloc _=w2 at own0 hal0 ⊢
 clear ct lt kt
 go_loopw [29,3] (fun y v wr=>∃ i:Nat,i≤R∧y= .int .i64 (i:Int)∧wr.ownsRow w1.heap.size 22 1 v (PR i).length (U64 (PR i))∧(PR i).length≤4+700000*i∧Below w1.heap.size w1 wr) (fun y _ _=>R-(intOf y).toNat)
 case atStart=>exact ⟨0,Nat.zero_le _,rfl,by rw [HP0.out];exact own0,by rw [HP0.out];simp,hal0⟩
 case round =>
  clear own0 hal0
  obtain ⟨i,hi,rfl,hown,hle,hb⟩:=hrel
  by_cases hlt:i<R
  ·have q1:(i:Int)<(R:Int):=by omega
   have q2:(0:Int)≤(i:Int):=by omega
   have hli:i<rows.length:=by rw [HR.out];exact hlt
   obtain ⟨b,q,rfl⟩:=hrd.base (by omega) (by omega)
   obtain ⟨cs,-,hc,x,y,z,rfl,hx1,hy1,hz1⟩:=hrd.get hli
   have hbo:=Za hb0 hb
   have hbw:=World.block_lt_of_cell? _ _ ((hc 0 (by omega)).trans (show [x,y,z][0]?=some x from rfl))
   have h0:=(hbo.cell (p:=⟨b,q+i*3+0,none⟩) hbw).trans (hc 0 (by omega))
   have h1:=(hbo.cell (p:=⟨b,q+i*3+1,none⟩) hbw).trans (hc 1 (by omega))
   have h2:=(hbo.cell (p:=⟨b,q+i*3+2,none⟩) hbw).trans (hc 2 (by omega))
   rw [Nat.add_zero] at h0
   simp only [List.getElem?_cons_zero,List.getElem?_cons_succ] at h0 h1 h2
   have HSd:=Lib.hid (show ∀ k,k<3→RLin w [if k=0 then x else if k=1 then y else z] (VG rows[i] k) from fun k hk=>by
    unfold VG
    rcases (show k=0∨k=1∨k=2 by omega) with h | h | h <;> subst h
    ·exact hx1
    ·exact hy1
    ·exact hz1)
   have HSi:=Lib.hid (fun k hk=>HS.out rows[i] (List.getElem_mem hli) k hk)
   have HTi:=Lib.hid (fun k hk=>HT.out rows[i] (List.getElem_mem hli) k hk)
   obtain ⟨PS,hPS⟩:∃ PS,PS=kF (PR i) rows[i]:=⟨_,rfl⟩
   have HPNi:=Lib.hid (show PR (i+1)=PS 3 by rw [hPS];exact HPN.out i hli)
   obtain ⟨sd,hsd⟩:∃ sd,sd=VG rows[i]:=⟨_,rfl⟩
   have HS0:=Lib.hid (show PS 0=PR i by rw [hPS];rfl)
   have HSN:=Lib.hid (show ∀ j,PS (j+1)=PS j++zt (sd j) from fun j=>by rw [hPS,hsd];rfl)
   rw [←hsd] at HSi HTi HSd
   obtain ⟨A1,n1,c1,rfl⟩:=RSl.slc hx1
   obtain ⟨A2,n2,c2,rfl⟩:=RSl.slc hy1
   obtain ⟨A3,n3,c3,rfl⟩:=RSl.slc hz1
   have hal:=(Below.refl wr.heap.size wr).alloc (Nat.le_refl _) (.cells #[.slice A1 n1 c1, .slice A2 n2 c2, .slice A3 n3 c3] 168)
   have HLT:=Lib.hid hlt
   clear hc hx1 hy1 hz1 hPS hsd hbo hli hlt
   have hbl:=World.block_lt_of_cell? _ _ h0
   go_wp2_with fail
   go_loopw [40,3] (fun y v wr=>∃ j:Nat,j≤3∧y= .int .i64 (j:Int)∧wr.ownsRow w1.heap.size 22 1 v (PS j).length (U64 (PS j))∧(PS j).length≤4+700000*i+200001*j∧Below w1.heap.size w1 wr) (fun y _ _=>3-(intOf y).toNat)
   case atStart=>exact ⟨0,by omega,rfl,by rw [HS0.out];exact ZM hown hal (Nat.le_refl _),by rw [HS0.out];omega,hb.trans (hal.mono hb.size)⟩
   case round =>
    clear hown hb h0 h1 h2 hal hbl hle
    obtain ⟨j,hj,rfl,hown,hle,hb⟩:=hrel
    by_cases hj3:j<3
    ·have q3:(j:Int)<3:=by omega
     have q4:(0:Int)≤(j:Int):=by omega
     have hsr:=HSd.out j hj3
     have ix:=fun w=>zFc (w:=w) (x:=.slice A1 n1 c1) (y:=.slice A2 n2 c2) (z:=.slice A3 n3 c3) hj3
     obtain ⟨sel,hsel⟩:∃ sel,sel=(if j=0 then Value.slice A1 n1 c1 else if j=1 then .slice A2 n2 c2 else .slice A3 n3 c3):=⟨_,rfl⟩
     rw [←hsel] at hsr ix
     have HTj:=Lib.hid (HTi.out j hj3)
     have hsj:=HSi.out j hj3
     have HSNj:=Lib.hid (HSN.out j)
     obtain ⟨ts,hts⟩:∃ ts,ts=sd j:=⟨_,rfl⟩
     rw [←hts] at hsr HTj hsj HSNj
     clear hsel hts
     obtain ⟨As,ns,cs1,rfl⟩:=RSl.slc hsr
     obtain ⟨A',n',c',he,hln,hnc,hcx,hrt⟩:=hsr
     simp at he
     obtain ⟨rfl,rfl,rfl⟩:=he
     have gns:=Vf hnc hcx
     have hns:ns≤100000:=by omega
     have y4:IntKind.u64.wrap (ns:Int)=(ns:Int):=by rw [IntKind.wrap_u64];omega
     have HNS:=Lib.hid hln
     obtain ⟨PT,hPT⟩:∃ PT,PT=zu (PS j) ts:=⟨_,rfl⟩
     have HT0:=Lib.hid (show PS j++[ns]=PT 0 by rw [hPT,zX,HNS.out])
     have HTN:=Lib.hid (show ∀ t,t<ns→PT (t+1)=PT t++[(ts.getD t (0,0)).1.toNat,(ts.getD t (0,0)).2] from fun t h=>by rw [hPT];exact yp _ _ (by rw [HNS.out];exact h))
     have HTF:=Lib.hid (show PT ns=PS (j+1) by rw [hPT,HSNj.out,←HNS.out];exact zP _ _)
     have HTL:=Lib.hid (show ∀ t,t≤ns→(PT t).length=(PS j).length+1+2*t from fun t h=>by rw [hPT];exact xG _ _ (by rw [HNS.out];exact h))
     have hl0:(PT 0).length=(PS j).length+1:=HTL.out 0 (Nat.zero_le _)
     clear hPT hln hnc hcx hsj
     go_wp2_with (at_builtin;refine ZW rfl _ _ rfl Gi rfl (hown.alloc _) rfl (G4 _ _ _) (YW [ns]) (by omega) (by simp;have:=hb.size;omega) ?_)
     intro v' wn hown' hgrow hblk
     have hal:=(Below.refl wr.heap.size wr).alloc (Nat.le_refl _) (.cells #[.int .u64 (ns:Int)] 22)
     have hB:=YD (hown.alloc _) hgrow (by simp;have:=hb.size;omega)
     replace hb:=(XH hb hal hb.size).trans hB
     replace hown:wn.ownsRow w1.heap.size 22 1 v' ((PS j).length+1) (U64 (PT 0)):=UV (b:=[ns]) hown' HT0.out
     clear hown' hgrow hblk hal hB
     rw [←hl0] at hown
     have hle0:(PT 0).length≤4+700000*i+200001*j+1:=by omega
     have HLE:=Lib.hid hle
     have HL0:=Lib.hid hl0
     clear hle hl0
     go_wp2_with fail
     go_loopw [51,3] (fun y v wr=>∃ t:Nat,t≤ns∧y= .int .i64 (t:Int)∧wr.ownsRow w1.heap.size 22 1 v (PT t).length (U64 (PT t))∧Below w1.heap.size w1 wr) (fun y _ _=>ns-(intOf y).toNat)
     case atStart=>exact ⟨0,Nat.zero_le _,rfl,hown,hb⟩
     case round =>
      clear hown hb hle0
      obtain ⟨t,ht,rfl,hown,hb⟩:=hrel
      by_cases htn:t<ns
      ·have q5:(t:Int)<(ns:Int):=by omega
       have q6:(0:Int)≤(t:Int):=by omega
       have htl:t<ts.length:=by rw [HNS.out];exact htn
       obtain ⟨b',q',rfl⟩:=hrt.base (by omega) (by omega)
       have hbo:=Za hb0 hb
       obtain ⟨c1',c2'⟩:=RLin.at_ (hrt.below Vk hbo) htl
       have hbl':=World.block_lt_of_cell? _ _ c1'
       simp only at hbl'
       obtain ⟨hv1,hv2,hv3⟩:=HTj.out _ (ya (0,0) htl)
       have HTt:=Lib.hid (HTN.out t htn)
       have hlen:(PT t).length≤100000000000:=by
        rw [HTL.out t ht]
        have:=HLE.out
        omega
       have hlen1:(PT (t+1)).length=(PT t).length+2:=by rw [HTt.out];simp
       revert c1' c2' hv1 hv2 hv3 HTt
       generalize ts.getD t (0,0)=tm
       obtain ⟨v0,co⟩:=tm
       intro c1' c2' hv1 hv2 hv3 HTt
       simp only at c1' c2' hv1 hv2 hv3
       obtain ⟨v1,rfl⟩:=Int.eq_ofNat_of_zero_le hv1
       have y5:IntKind.u64.wrap (v1:Int)=(v1:Int):=by rw [IntKind.wrap_u64];omega
       have HTt2:=Lib.hid (show PT (t+1)=PT t++[v1,co] by rw [HTt.out];simp)
       have HTN1:=Lib.hid htn
       have al1:=(Below.refl wr.heap.size wr).alloc (Nat.le_refl _) (.cells #[.int .i64 (v1:Int), .int .u64 (co:Int)] 216)
       have own1:=ZM hown al1 (Nat.le_refl _)
       have hsz1:=hb.size
       clear hv1 hv2 hv3 HTt hbo htl htn
       have kt9:=Blk.new wr 216 #[.int .i64 (v1:Int), .int .u64 (co:Int)]
       go_upto_region 14 with fail
       generalize wr.alloc _=w9 at al1 own1 kt9 ⊢
       have c9:=kt9.cell
       have l9:=kt9.lt
       have hb9:=hb.trans (al1.mono hsz1)
       have al2:=(Below.refl w9.heap.size w9).alloc (Nat.le_refl _) (.cells #[.int .u64 (v1:Int), .int .u64 (co:Int)] 22)
       have hsz9:=hb9.size
       go_wp2_with (at_builtin;refine ZW rfl _ _ rfl Gi rfl (own1.alloc _) rfl (zAt _ _ _ _) (YW [v1,co]) (by omega) (by simp;omega) ?_)
       intro v' wn hown' hgrow hblk
       have hbn:=(hb9.trans (al2.mono hsz9)).trans (YD (own1.alloc _) hgrow (by simp;omega))
       have hownn:wn.ownsRow w1.heap.size 22 1 v' (PT (t+1)).length (U64 (PT (t+1))):=by
        rw [hlen1]
        exact UV (b:=[v1,co]) hown' HTt2.out.symm
       clear hown' hgrow hblk hb9 al2 al1 own1 kt9 c9 l9
       go_wp2
       go_roundw
       case rel=>exact ⟨t+1,HTN1.out,by go_num,hownn,hbn⟩
       case measure=>have:=HTN1.out;simp [intOf];omega
      ·obtain rfl:ns=t:=by omega
       rw [HTF.out] at hown
       have hls:(PS (j+1)).length≤4+700000*i+200001*(j+1):=by
        rw [←HTF.out,HTL.out ns (Nat.le_refl _)]
        have:=HLE.out
        omega
       go_wp2
       go_roundw
       case rel=>exact ⟨j+1,hj3,by go_num,hown,hls,hb⟩
       case measure=>simp [intOf];omega
    ·obtain rfl:j=3:=by omega
     rw [←HPNi.out] at hown hle
     have hle2:(PR (i+1)).length≤4+700000*(i+1):=Nat.le_trans hle (jF i)
     go_wp2
     go_roundw
     case rel=>exact ⟨i+1,HLT.out,by go_num,hown,hle2,hb⟩
     case measure=>have:=HLT.out;simp [intOf];omega
  ·obtain rfl:R=i:=by omega
   rw [HPF.out] at hown
   obtain ⟨Av,cv,rfl,-⟩:=Yd hown
   have hw:=Vj hown H64.out
   have HC:=Lib.hid (HH.out _ _ _ wr hw)
   have hbw:=Za hb0 hb
   clear hw hown hle
   go_wp2_with fail
   refine HC.out.mono ?_
   rintro e w5 ⟨rfl,hb5⟩
   replace hbw:=Za hbw hb5
   go_wp2
   go_ret
   exact ⟨rfl,hbw⟩
set_option maxRecDepth 100000 in
theorem xt (A1 A2 A3:Option Addr) (n1 n2 n3 c1 c2 c3:Nat) (w:World) :
  Calls Tryz.prog 252 #[.agg #[.slice A1 n1 c1, .slice A2 n2 c2, .slice A3 n3 c3]] w fun e w'=>∃ g,e= .returned (.slice (some ⟨g,0,none⟩) 3 3)∧Blk w' g 166 #[.slice A1 n1 c1, .slice A2 n2 c2, .slice A3 n3 c3]∧w.heap.size≤g∧Below w.heap.size w w':=by
 have kb:=Blk.new w 168 #[.slice A1 n1 c1, .slice A2 n2 c2, .slice A3 n3 c3]
 have hb:=(Below.refl w.heap.size w).alloc (Nat.le_refl _) (.cells #[.slice A1 n1 c1, .slice A2 n2 c2, .slice A3 n3 c3] 168)
 go_enter Tryz.func252,Tryz.ntmps252
 go_upto_region 1 with fail
 generalize w.alloc _=w1 at kb hb ⊢
 have cb:=kb.cell
 have hs:=hb.size
 have k2:=Blk.new w1 166 #[.slice A1 n1 c1, .slice A2 n2 c2, .slice A3 n3 c3]
 have hb2:=hb.trans (((Below.refl w1.heap.size w1).alloc (Nat.le_refl _) (.cells #[.slice A1 n1 c1, .slice A2 n2 c2, .slice A3 n3 c3] 166)).mono hs)
 go_wp2
 go_ret
 exact ⟨_,rfl,k2,hs,hb2⟩
set_option maxRecDepth 100000 in
set_option maxHeartbeats 2000000 in
theorem zM (p:Nat) (pub vars:Int) (A:Option Addr) (R c:Nat) (rows:List Yb) (w:World) (hr:RSl 3 XI w [.slice A R c] rows) (hD:U0 p pub vars rows) :
  Calls Tryz.prog 201 #[Yz p pub vars (.slice A R c)] w fun e w'=>∃ v,e= .returned v∧w'.ownsRow w.heap.size 22 1 v (Uf p pub vars rows).length (U64 (Uf p pub vars rows))∧Below w.heap.size w w':=by
 obtain ⟨A',n',c',he,hln,hnc,hmx,hrd⟩:=hr
 simp at he
 obtain ⟨rfl,rfl,rfl⟩:=he
 obtain ⟨pb,rfl⟩:=Int.eq_ofNat_of_zero_le hD.pubI.1
 obtain ⟨vr,rfl⟩:=Int.eq_ofNat_of_zero_le hD.varI.1
 have hp2:=hD.pubI.2
 have hv2:=hD.varI.2
 have hRn:R≤16384:=by rw [←hln];exact hD.n
 have hDp:=hD.pl
 have y1:IntKind.u64.wrap (pb:Int)=(pb:Int):=by rw [IntKind.wrap_u64];omega
 have y2:IntKind.u64.wrap (vr:Int)=(vr:Int):=by rw [IntKind.wrap_u64];omega
 have y3:IntKind.u64.wrap (R:Int)=(R:Int):=by rw [IntKind.wrap_u64];omega
 have kt:=Blk.new w 25 #[.int .u64 (p:Int), .int .i64 (pb:Int), .int .i64 (vr:Int), .slice A R c]
 have hb0:Below w.heap.size w (w.alloc (.cells #[.int .u64 (p:Int), .int .i64 (pb:Int), .int .i64 (vr:Int), .slice A R c] 25)):=(Below.refl _ _).alloc (Nat.le_refl _) _
 have HR:=Lib.hid hln
 have HS:=Lib.hid hD.sides
 have HT:=Lib.hid hD.terms
 clear hln hnc hmx hp2 hv2 hD hDp
 unfold Yz at *
 go_enter Tryz.func201,Tryz.ntmps201
 go_upto_region 1 with fail
 generalize w.alloc _=w1 at kt hb0 ⊢
 have ct:=kt.cell
 have lt:=kt.lt
 have KT:=Lib.hid kt
 have own0:=Vv (J5 w1 p pb vr R 22) hb0.size
 have hal0:=hb0.trans (((Below.refl w1.heap.size w1).alloc (Nat.le_refl _) (.cells #[.int .u64 (p:Int), .int .u64 (pb:Int), .int .u64 (vr:Int), .int .u64 (R:Int)] 22)).mono hb0.size)
 have kt2:=kt.alloc (.cells #[.int .u64 (p:Int), .int .u64 (pb:Int), .int .u64 (vr:Int), .int .u64 (R:Int)] 22)
 obtain ⟨PR,hPR⟩:∃ PR,PR=yQ p pb vr rows:=⟨_,rfl⟩
 have HP0:=Lib.hid (show PR 0=[p,pb,vr,R] by rw [hPR,←HR.out];simp [yQ])
 have HPN:=Lib.hid (show ∀ i (h:i<rows.length),PR (i+1)=kF (PR i) rows[i] 3 from fun i h=>by rw [hPR];exact yn p pb vr rows h)
 have HPF:=Lib.hid (show PR R=Uf p pb vr rows by rw [hPR,←HR.out];exact z7 p pb vr rows)
 clear hPR
 go_upto_region 3 with fail
 generalize w1.alloc _=w2 at own0 hal0 kt2 ⊢
 clear ct lt kt
 go_loopw [4,3] (fun y v wr=>∃ i:Nat,i≤R∧y= .int .i64 (i:Int)∧wr.ownsRow w.heap.size 22 1 v (PR i).length (U64 (PR i))∧(PR i).length≤4+700000*i∧Below w.heap.size w wr∧Blk wr w.heap.size 25 #[.int .u64 (p:Int), .int .i64 (pb:Int), .int .i64 (vr:Int), .slice A R c]) (fun y _ _=>R-(intOf y).toNat)
 case atStart=>exact ⟨0,Nat.zero_le _,rfl,by rw [HP0.out];exact own0,by rw [HP0.out];simp,hal0,kt2⟩
 case round =>
  clear own0 hal0 kt2
  obtain ⟨i,hi,rfl,hown,hle,hb,kt⟩:=hrel
  have ct:=kt.cell
  by_cases hlt:i<R
  ·have q1:(i:Int)<(R:Int):=by omega
   have q2:(0:Int)≤(i:Int):=by omega
   have hli:i<rows.length:=by rw [HR.out];exact hlt
   obtain ⟨b,q,rfl⟩:=hrd.base (by omega) (by omega)
   obtain ⟨cs,-,hc,x,y,z,rfl,hx1,hy1,hz1⟩:=hrd.get hli
   have hbw:=World.block_lt_of_cell? _ _ ((hc 0 (by omega)).trans (show [x,y,z][0]?=some x from rfl))
   have h0:=(hb.cell (p:=⟨b,q+i*3+0,none⟩) hbw).trans (hc 0 (by omega))
   have h1:=(hb.cell (p:=⟨b,q+i*3+1,none⟩) hbw).trans (hc 1 (by omega))
   have h2:=(hb.cell (p:=⟨b,q+i*3+2,none⟩) hbw).trans (hc 2 (by omega))
   rw [Nat.add_zero] at h0
   simp only [List.getElem?_cons_zero,List.getElem?_cons_succ] at h0 h1 h2
   have HSd:=Lib.hid (show ∀ k,k<3→RLin w [if k=0 then x else if k=1 then y else z] (VG rows[i] k) from fun k hk=>by
    unfold VG
    rcases (show k=0∨k=1∨k=2 by omega) with h | h | h <;> subst h
    ·exact hx1
    ·exact hy1
    ·exact hz1)
   have HSi:=Lib.hid (fun k hk=>HS.out rows[i] (List.getElem_mem hli) k hk)
   have HTi:=Lib.hid (fun k hk=>HT.out rows[i] (List.getElem_mem hli) k hk)
   obtain ⟨PS,hPS⟩:∃ PS,PS=kF (PR i) rows[i]:=⟨_,rfl⟩
   have HPNi:=Lib.hid (show PR (i+1)=PS 3 by rw [hPS];exact HPN.out i hli)
   obtain ⟨sd,hsd⟩:∃ sd,sd=VG rows[i]:=⟨_,rfl⟩
   have HS0:=Lib.hid (show PS 0=PR i by rw [hPS];rfl)
   have HSN:=Lib.hid (show ∀ j,PS (j+1)=PS j++zt (sd j) from fun j=>by rw [hPS,hsd];rfl)
   rw [←hsd] at HSi HTi HSd
   obtain ⟨A1,n1,c1,rfl⟩:=RSl.slc hx1
   obtain ⟨A2,n2,c2,rfl⟩:=RSl.slc hy1
   obtain ⟨A3,n3,c3,rfl⟩:=RSl.slc hz1
   have HLT:=Lib.hid hlt
   clear hc hx1 hy1 hz1 hPS hsd hli hlt
   have hbl:=World.block_lt_of_cell? _ _ h0
   go_wp2_with fail
   refine (xt A1 A2 A3 n1 n2 n3 c1 c2 c3 wr).mono ?_
   rintro e w3 ⟨gp,rfl,kp,hgp,hb3⟩
   have kt3:=kt.below hb3 kt.lt
   have hown3:=ZM hown hb3 (Nat.le_refl _)
   have hb4:=Za hb hb3
   have hngp:w.heap.size≤gp:=Nat.le_trans hb.size hgp
   clear hown hb hb3 kt ct h0 h1 h2 hbl hgp
   go_wp2_with fail
   go_loopw [6,3] (fun y v wr=>∃ j:Nat,j≤3∧y= .int .i64 (j:Int)∧wr.ownsRow w.heap.size 22 1 v (PS j).length (U64 (PS j))∧(PS j).length≤4+700000*i+200001*j∧Below w.heap.size w wr∧Blk wr w.heap.size 25 #[.int .u64 (p:Int), .int .i64 (pb:Int), .int .i64 (vr:Int), .slice (some ⟨b,q,none⟩) R c]∧Blk wr gp 166 #[.slice A1 n1 c1, .slice A2 n2 c2, .slice A3 n3 c3]) (fun y _ _=>3-(intOf y).toNat)
   case atStart=>exact ⟨0,by omega,rfl,by rw [HS0.out];exact hown3,by rw [HS0.out];omega,hb4,kt3,kp⟩
   case round =>
    clear hown3 hb4 kt3 kp hle
    obtain ⟨j,hj,rfl,hown,hle,hb,kt,kp⟩:=hrel
    by_cases hj3:j<3
    ·have q3:(j:Int)<3:=by omega
     have q4:(0:Int)≤(j:Int):=by omega
     have hsr:=HSd.out j hj3
     obtain ⟨sel,hsel⟩:∃ sel,sel=(if j=0 then Value.slice A1 n1 c1 else if j=1 then .slice A2 n2 c2 else .slice A3 n3 c3):=⟨_,rfl⟩
     rw [←hsel] at hsr
     have HCP:=Lib.hid (show ∀ u:World,Blk u gp 166 #[.slice A1 n1 c1, .slice A2 n2 c2, .slice A3 n3 c3]→u.cell? ⟨gp,j,none⟩=some sel from fun u k=>by
      rw [k.cell j,hsel]
      rcases (show j=0∨j=1∨j=2 by omega) with h | h | h <;> subst h <;> rfl)
     have HTj:=Lib.hid (HTi.out j hj3)
     have hsj:=HSi.out j hj3
     have HSNj:=Lib.hid (HSN.out j)
     obtain ⟨ts,hts⟩:∃ ts,ts=sd j:=⟨_,rfl⟩
     rw [←hts] at hsr HTj hsj HSNj
     clear hsel hts
     obtain ⟨As,ns,cs1,rfl⟩:=RSl.slc hsr
     obtain ⟨A',n',c',he,hln,hnc,hcx,hrt⟩:=hsr
     simp at he
     obtain ⟨rfl,rfl,rfl⟩:=he
     have gns:=Vf hnc hcx
     have hns:ns≤100000:=by omega
     have y4:IntKind.u64.wrap (ns:Int)=(ns:Int):=by rw [IntKind.wrap_u64];omega
     have HNS:=Lib.hid hln
     obtain ⟨PT,hPT⟩:∃ PT,PT=zu (PS j) ts:=⟨_,rfl⟩
     have HT0:=Lib.hid (show PS j++[ns]=PT 0 by rw [hPT,zX,HNS.out])
     have HTN:=Lib.hid (show ∀ t,t<ns→PT (t+1)=PT t++[(ts.getD t (0,0)).1.toNat,(ts.getD t (0,0)).2] from fun t h=>by rw [hPT];exact yp _ _ (by rw [HNS.out];exact h))
     have HTF:=Lib.hid (show PT ns=PS (j+1) by rw [hPT,HSNj.out,←HNS.out];exact zP _ _)
     have HTL:=Lib.hid (show ∀ t,t≤ns→(PT t).length=(PS j).length+1+2*t from fun t h=>by rw [hPT];exact xG _ _ (by rw [HNS.out];exact h))
     have hl0:(PT 0).length=(PS j).length+1:=HTL.out 0 (Nat.zero_le _)
     clear hPT hln hnc hcx hsj
     have cp:=HCP.out wr kp
     have hsz:=hb.size
     have hal:=(Below.refl wr.heap.size wr).alloc (Nat.le_refl _) (.cells #[.int .u64 (ns:Int)] 22)
     have ownA:=hown.alloc (.cells #[.int .u64 (ns:Int)] 22)
     have ktA:=kt.alloc (.cells #[.int .u64 (ns:Int)] 22)
     have kpA:=kp.alloc (.cells #[.int .u64 (ns:Int)] 22)
     go_wp2_with (at_builtin;refine ZW rfl _ _ rfl Gi rfl ownA rfl (G4 _ _ _) (YW [ns]) (by omega) (by simp;omega) ?_)
     intro v' wn hown' hgrow hblk
     have hbn:=(hb.trans (hal.mono hsz)).trans (YD ownA hgrow (by simp;omega))
     have ktn:=ktA.grown hgrow (fun e=>YM ownA ktA (by decide) _ e.symm rfl)
     have kpn:=kpA.grown hgrow (fun e=>YM ownA kpA (by decide) _ e.symm rfl)
     have hownn:wn.ownsRow w.heap.size 22 1 v' (PT 0).length (U64 (PT 0)):=by
      rw [hl0]
      exact UV (b:=[ns]) hown' HT0.out
     have HLE:=Lib.hid hle
     clear hown' hgrow hblk hal ownA ktA kpA hown hb kt kp cp hle hl0 hsz
     go_wp2_with fail
     go_loopw [7,3] (fun y v wr=>∃ t:Nat,t≤ns∧y= .int .i64 (t:Int)∧wr.ownsRow w.heap.size 22 1 v (PT t).length (U64 (PT t))∧Below w.heap.size w wr∧Blk wr w.heap.size 25 #[.int .u64 (p:Int), .int .i64 (pb:Int), .int .i64 (vr:Int), .slice (some ⟨b,q,none⟩) R c]∧Blk wr gp 166 #[.slice A1 n1 c1, .slice A2 n2 c2, .slice A3 n3 c3]) (fun y _ _=>ns-(intOf y).toNat)
     case atStart=>exact ⟨0,Nat.zero_le _,rfl,hownn,hbn,ktn,kpn⟩
     case round =>
      clear hownn hbn ktn kpn
      obtain ⟨t,ht,rfl,hown,hb,kt,kp⟩:=hrel
      have cp:=HCP.out wr kp
      by_cases htn:t<ns
      ·have q5:(t:Int)<(ns:Int):=by omega
       have q6:(0:Int)≤(t:Int):=by omega
       have htl:t<ts.length:=by rw [HNS.out];exact htn
       obtain ⟨b',q',rfl⟩:=hrt.base (by omega) (by omega)
       obtain ⟨c1',c2'⟩:=RLin.at_ (hrt.below Vk hb) htl
       obtain ⟨d1',d2'⟩:=RLin.at_ hrt htl
       have hbl':=World.block_lt_of_cell? _ _ d1'
       simp only at hbl'
       obtain ⟨hv1,hv2,hv3⟩:=HTj.out _ (ya (0,0) htl)
       have HTt:=Lib.hid (HTN.out t htn)
       have hlen:(PT t).length≤100000000000:=by
        rw [HTL.out t ht]
        have:=HLE.out
        omega
       have hlen1:(PT (t+1)).length=(PT t).length+2:=by rw [HTt.out];simp
       clear d1' d2'
       revert c1' c2' hv1 hv2 hv3 HTt
       generalize ts.getD t (0,0)=tm
       obtain ⟨v0,co⟩:=tm
       intro c1' c2' hv1 hv2 hv3 HTt
       simp only at c1' c2' hv1 hv2 hv3
       obtain ⟨v1,rfl⟩:=Int.eq_ofNat_of_zero_le hv1
       have y5:IntKind.u64.wrap (v1:Int)=(v1:Int):=by rw [IntKind.wrap_u64];omega
       have HTt2:=Lib.hid (show PT (t+1)=PT t++[v1,co] by rw [HTt.out];simp)
       have HTN1:=Lib.hid htn
       clear hv1 hv2 hv3 HTt htl htn
       go_upto_region 13 with fail
       obtain ⟨NQ,hNQ⟩:∃ NQ,NQ=wr.heap.size:=⟨_,rfl⟩
       have lgp:gp<NQ:=by rw [hNQ];exact kp.lt
       have lb':b'<NQ:=by rw [hNQ];exact Nat.lt_of_lt_of_le hbl' hb.size
       obtain ⟨V0,hV0⟩:∃ V0:Nat→Prop,V0=fun b=>u3.ownBlock=some b:=⟨_,rfl⟩
       have nVp:¬V0 gp:=fun e=>by rw [hV0] at e;exact YM hown kp (by decide) _ e rfl
       have nVk:¬V0 w.heap.size:=fun e=>by rw [hV0] at e;exact YM hown kt (by decide) _ e rfl
       have nVb:¬V0 b':=fun e=>by rw [hV0] at e;have:=(hown.lt b' e).1;omega
       have hVo:∀ b,u3.ownBlock=some b→V0 b:=fun b h=>by rw [hV0];exact h
       have HVB:=Lib.hid (show ∀ b,V0 b→w.heap.size≤b∧b<wr.heap.size from fun b h=>by rw [hV0] at h;exact hown.lt b h)
       have HOWN:=Lib.hid hown
       have HB:=Lib.hid hb
       have KT:=Lib.hid kt
       have KP:=Lib.hid kp
       have HNQ:=Lib.hid hNQ
       clear hV0 hown hb kt kp hNQ hbl'
       refine YI (V0) (V0) (NQ) [18,19] [0,1,2,3,4,5,6,7,8,9,10,11,12,13,14,15,16,17,18,19,20] [] [] (by kernel_rfl) (List.forall_mem_nil _) (by kernel_rfl) ?_
       refine Yp ?_
       intro Wc HWc hacc
       have hFT:Hid (X5 V0 NQ V0 Wc):=Lib.hid (by rw [HWc.out,HNQ.out];exact ⟨Nat.le_refl _,fun b h=>(HVB.out b h).2,fun _ _ h=>h⟩)
       have HB2:=Lib.hid (show Below w.heap.size w Wc by rw [HWc.out];exact HB.out.drew)
       have KT2:=Lib.hid (show Blk Wc _ _ _ by rw [HWc.out];exact KT.out.drew)
       have KP2:=Lib.hid (show Blk Wc _ _ _ by rw [HWc.out];exact KP.out.drew)
       have OW2:=Lib.hid (show Wc.ownsRow _ _ _ _ _ _ by rw [HWc.out];exact ZT HOWN.out (u:=wr.drew) fun _ _=>rfl)
       clear HWc HB KT KP HOWN
       repeat (first | (refine ZV rfl rfl (fun _ _ _ h=>h) ?_;simp only [Act.put,zLa,zLb,zLc]) | (refine ZJ (v:=?_) rfl rfl hFT (fun _ _ _ h=>h) ?_ ?_;rotate_left;(· (intro w' hR;(first | have hcells:=Zi ((Zb V0 NQ).trans _ _ _ hacc hR) | skip);go_simp;try with_reducible rfl));simp only [Act.put,zLa,zLb,zLc]))
       refine GE rfl rfl rfl hFT (fun wF hxF=>?_)
       replace HB2:=Lib.hid (Za HB2.out hxF)
       replace KT2:=Lib.hid (KT2.out.below hxF KT2.out.lt)
       replace KP2:=Lib.hid (KP2.out.below hxF KP2.out.lt)
       replace OW2:=Lib.hid (ZM OW2.out hxF (Nat.le_refl _))
       replace hacc:=(Zb V0 NQ).trans _ _ _ hacc (Zj hxF hFT.out.size)
       replace hFT:=Lib.hid (Zo hFT.out hxF)
       have hal:=(Below.refl wF.heap.size wF).alloc (Nat.le_refl _) (.cells #[.int .u64 (v1:Int), .int .u64 (co:Int)] 22)
       have hrd:=zAt wF v1 co 22
       refine ⟨.slice (some ⟨wF.heap.size,0,none⟩) 2 2,wF.alloc (.cells #[.int .u64 (v1:Int), .int .u64 (co:Int)] 22),V0,by go_simp <;> rfl,Zp hal,(Zo hFT.out hal).lt,?_⟩
       replace HB2:=Lib.hid (Za HB2.out hal)
       replace KT2:=Lib.hid (KT2.out.below hal KT2.out.lt)
       replace KP2:=Lib.hid (KP2.out.below hal KP2.out.lt)
       replace OW2:=Lib.hid (ZM OW2.out hal (Nat.le_refl _))
       replace hacc:=(Zb V0 NQ).trans _ _ _ hacc (Z0 hFT.out (Zp hal))
       replace hFT:=Lib.hid (Z1 hFT.out (Zp hal) ((Zo hFT.out hal).lt))
       try simp only [Act.put,zLa,zLb,zLc]
       generalize wF.alloc _=wP at hal hrd HB2 KT2 KP2 OW2 hacc hFT ⊢
       have hs2:=HB2.out.size
       refine JQ rfl rfl rfl _ _ rfl (Gi) rfl rfl hFT (OW2.out) (hrd) (YW [v1,co]) (by omega) (by first | exact Nat.le_refl _ | omega) (hVo) (fun wF v' w' hxF hown' hm' hlt'=>?_)
       replace HB2:=Lib.hid (Za HB2.out hxF)
       replace KT2:=Lib.hid (KT2.out.below hxF KT2.out.lt)
       replace KP2:=Lib.hid (KP2.out.below hxF KP2.out.lt)
       replace hacc:=(Zb V0 NQ).trans _ _ _ hacc (Zj hxF hFT.out.size)
       replace hFT:=Lib.hid (Zo hFT.out hxF)
       replace hacc:=(Zb V0 NQ).trans _ _ _ hacc (Z0 hFT.out hm')
       replace hFT:=Lib.hid (Z1 hFT.out hm' hlt')
       try simp only [Act.put,zLa,zLb,zLc]
       have HB3:=Lib.hid (Uc HB2.out hm' fun b h=>(HVB.out b h).1)
       have KT3:=Lib.hid (KT2.out.moved hm' nVk)
       have KP3:=Lib.hid (KP2.out.moved hm' nVp)
       have hownn:w'.ownsRow w.heap.size 22 1 v' (PT (t+1)).length (U64 (PT (t+1))):=by
        rw [hlen1]
        exact UV (b:=[v1,co]) hown' HTt2.out.symm
       have OWN:=Lib.hid hownn
       clear hown' hm' hlt' hownn hrd HB2 KT2 KP2 OW2
       repeat (first | (refine ZV rfl rfl (fun _ _ _ h=>h) ?_;simp only [Act.put,zLa,zLb,zLc]) | (refine ZJ (v:=?_) rfl rfl hFT (fun _ _ _ h=>h) ?_ ?_;rotate_left;(· (intro w' hR;(first | have hcells:=Zi ((Zb V0 NQ).trans _ _ _ hacc hR) | skip);go_simp;try with_reducible rfl));simp only [Act.put,zLa,zLb,zLc]))
       refine Xp [] rfl hFT (fun gsE wE hxE hflE=>?_)
       clear hflE
       unfold Jq
       try simp only [List.foldl]
       replace HB3:=Lib.hid (Za HB3.out hxE)
       replace KT3:=Lib.hid (KT3.out.below hxE KT3.out.lt)
       replace KP3:=Lib.hid (KP3.out.below hxE KP3.out.lt)
       replace OWN:=Lib.hid (ZM OWN.out hxE (Nat.le_refl _))
       replace hacc:=(Zb V0 NQ).trans _ _ _ hacc (Zj hxE hFT.out.size)
       replace hFT:=Lib.hid (Zo hFT.out hxE)
       try simp only [Act.put,zLa,zLb,zLc]
       refine Zt ?_
       go_wp2
       go_roundw
       case rel=>exact ⟨t+1,HTN1.out,by go_num,OWN.out,HB3.out,KT3.out,KP3.out⟩
       case measure=>have:=HTN1.out;simp [intOf];omega
      ·obtain rfl:ns=t:=by omega
       rw [HTF.out] at hown
       have hls:(PS (j+1)).length≤4+700000*i+200001*(j+1):=by
        rw [←HTF.out,HTL.out ns (Nat.le_refl _)]
        have:=HLE.out
        omega
       go_wp2
       go_roundw
       case rel=>exact ⟨j+1,hj3,by go_num,hown,hls,hb,kt,kp⟩
       case measure=>simp [intOf];omega
    ·obtain rfl:j=3:=by omega
     rw [←HPNi.out] at hown hle
     have hle2:(PR (i+1)).length≤4+700000*(i+1):=Nat.le_trans hle (jF i)
     go_wp2
     go_roundw
     case rel=>exact ⟨i+1,HLT.out,by go_num,hown,hle2,hb,kt⟩
     case measure=>have:=HLT.out;simp [intOf];omega
  ·obtain rfl:R=i:=by omega
   rw [HPF.out] at hown
   go_wp2
   go_ret
   exact ⟨_,rfl,hown,hb⟩
set_option maxRecDepth 100000 in
set_option maxHeartbeats 400000 in
theorem xa (p:Nat) (pub vars:Int) (A:Option Addr) (R c:Nat) (rows:List Yb) (w:World) (hr:RSl 3 XI w [.slice A R c] rows) (hD:U0 p pub vars rows) (hok:ZZ p pub vars rows=true) :
  Calls Tryz.prog 122 #[Yz p pub vars (.slice A R c)] w fun e w'=>e= .returned (.int .u64 (Ye p pub vars rows:Int))∧Below w.heap.size w w':=by
 have HV:=Lib.hid (fun w1 (hb:Below w.heap.size w w1)=>by have:=Yo p pub vars A R c rows w1 (ZQ ZG _ _ _ _ hb hr) hD.pl;rw [hok] at this;exact this)
 have HN:=Lib.hid (fun w1 (hb:Below w.heap.size w w1)=>zM p pub vars A R c rows w1 (ZQ ZG _ _ _ _ hb hr) hD)
 have HH:=Lib.hid (fun A1 n1 c1 w1 (h1:RWd w1 [.slice A1 n1 c1] (Uf p pub vars rows))=>zU 21 A1 n1 c1 (Uf p pub vars rows) w1 h1 (by simp [Uf]) hD.len)
 have H64:=Lib.hid (zAw hD)
 have hdv:Ye p pub vars rows=spH 21 (Uf p pub vars rows):=by unfold Ye;rw [if_pos hok]
 rw [hdv]
 have kt:=Blk.new w 25 #[.int .u64 (p:Int), .int .i64 pub, .int .i64 vars, .slice A R c]
 have hb0:Below w.heap.size w (w.alloc (.cells #[.int .u64 (p:Int), .int .i64 pub, .int .i64 vars, .slice A R c] 25)):=(Below.refl _ _).alloc (Nat.le_refl _) _
 obtain ⟨dn,hdn⟩:∃ dn,dn=Uf p pub vars rows:=⟨_,rfl⟩
 rw [←hdn] at HN HH H64 ⊢
 clear hdv hr hD hok hdn
 unfold Yz at *
 go_enter Tryz.func122,Tryz.ntmps122
 go_wp2_with fail
 generalize w.alloc _=w0 at kt hb0 ⊢
 refine (HV.out w0 hb0).mono ?_
 rintro e w1 ⟨rfl,hb1⟩
 replace kt:=kt.below hb1 kt.lt
 replace hb0:=Za hb0 hb1
 clear hb1 HV
 have ct:=kt.cell
 go_wp2_with fail
 refine (HN.out w1 hb0).mono ?_
 rintro e w2 ⟨v,rfl,hown,hb2⟩
 obtain ⟨Av,cv,rfl,-⟩:=Yd hown
 have HC:=Lib.hid (HH.out _ _ _ w2 (Vj hown H64.out))
 replace hb0:=Za hb0 hb2
 clear hb2 HN HH hown kt ct
 go_wp2_with fail
 refine HC.out.mono ?_
 rintro e w3 ⟨rfl,hb3⟩
 replace hb0:=Za hb0 hb3
 go_wp2
 go_ret
 exact ⟨rfl,hb0⟩
theorem JJ (w:World) (t1 t2 t3 t4:TypeId) (cs1 cs2 cs3 cs4:Array Value) :
  Blk ((((w.alloc (.cells cs1 t1)).alloc (.cells cs2 t2)).alloc (.cells cs3 t3)).alloc (.cells cs4 t4)) w.heap.size t1 cs1∧Blk ((((w.alloc (.cells cs1 t1)).alloc (.cells cs2 t2)).alloc (.cells cs3 t3)).alloc (.cells cs4 t4)) (w.heap.size+1) t2 cs2∧Blk ((((w.alloc (.cells cs1 t1)).alloc (.cells cs2 t2)).alloc (.cells cs3 t3)).alloc (.cells cs4 t4)) (w.heap.size+1+1) t3 cs3∧Blk ((((w.alloc (.cells cs1 t1)).alloc (.cells cs2 t2)).alloc (.cells cs3 t3)).alloc (.cells cs4 t4)) (w.heap.size+1+1+1) t4 cs4 ∧
   Below w.heap.size w ((((w.alloc (.cells cs1 t1)).alloc (.cells cs2 t2)).alloc (.cells cs3 t3)).alloc (.cells cs4 t4))∧((((w.alloc (.cells cs1 t1)).alloc (.cells cs2 t2)).alloc (.cells cs3 t3)).alloc (.cells cs4 t4)).heap.size=w.heap.size+4:=by
 obtain ⟨h1,h2,h3,h4,h5⟩:=Ks w t1 t2 t3 cs1 cs2 cs3
 refine ⟨h1.alloc _,h2.alloc _,h3.alloc _,?_,h4.alloc (by omega) _,by simp⟩
 have:=Blk.new (((w.alloc (.cells cs1 t1)).alloc (.cells cs2 t2)).alloc (.cells cs3 t3)) t4 cs4
 rw [h5] at this
 exact this
end Go.Proofs.YtdhhdplholkmdaaGreat
