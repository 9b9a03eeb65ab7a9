/- A part of the proof. No condition. -/
import Derived.Test.YtbiieaiahdihnaaProg
import Derived.Test.YtbiieaiahdihnaaOP20
import Derived.Test.YtbiieaiahdihnaaOP6
import Derived.Test.YtbiieaiahdihnaaOP7
import Derived.Test.YtbiieaiahdihnaaOP14

namespace Go.Proofs.Ytbiieaiahdihnaa
open Go.RowKit Go.Maps
theorem XC (O:Orc) (lab:Nat) (el:List Nat) (a:Nat):(Xx O lab el a).qs=O.qs++[⟨lab,el,a⟩]:=by simp only [Xx]
theorem Jz (i:Bool) (s d:Nat) (q:List Qn):(Y5 ⟨i,s,d,q⟩).qs=q:=rfl
theorem Xm (O:Orc):(Y5 O).qs=O.qs:=by
 cases O with
 | mk i s d q=>exact Jz i s d q
def Yv (O:Orc) (lab:Nat) (el:List Nat) (a:Nat):Prop:=ZB el=true∧ZH O.qs lab el=some a
theorem Km {qs:List Qn} {q:Qn} {lab:Nat} {el:List Nat} {a:Nat} (h:ZH qs lab el=some a):ZH (qs++[q]) lab el=some a:=by
 unfold ZH at h ⊢
 rw [List.find?_append]
 cases hc:qs.find? (qIs lab el) with
 | none=>rw [hc] at h;cases h
 | some x=>rw [hc] at h;exact h
theorem Kn {qs:List Qn} {lab:Nat} {el:List Nat} {a:Nat} (h:ZH qs lab el=none):ZH (qs++[⟨lab,el,a⟩]) lab el=some a:=by
 unfold ZH at h ⊢
 rw [Option.map_eq_none_iff] at h
 rw [List.find?_append,h]
 simp [qIs]
theorem K7 {O:Orc} {lab:Nat} {el:List Nat} {a:Nat} (h:Yv O lab el a):ZA O lab el=O∧ZM O lab el=a∧Y7 O lab el=some a:=by
 obtain ⟨h1,h2⟩:=h
 simp [ZA,ZM,Y7,h1,h2]
theorem Gk (O:Orc) (lab:Nat) {el:List Nat} (he:ZB el=true):Yv (ZA O lab el) lab el (ZM O lab el):=by
 refine ⟨he,?_⟩
 unfold ZA ZM
 rw [if_pos he,if_pos he]
 cases hf:ZH O.qs lab el with
 | some a=>exact hf
 | none =>
  cases O.ideal
  ·simp only [Bool.false_eq_true,if_false]
   exact Kn hf
  ·simp only [if_true]
   rw [XC,Xm]
   exact Kn hf
theorem UJ {O:Orc} {lab:Nat} {el:List Nat} {a:Nat} (h:Yv O lab el a) (lab':Nat) (el':List Nat):Yv (ZA O lab' el') lab el a:=by
 refine ⟨h.1,?_⟩
 unfold ZA
 split
 ·split
  ·exact h.2
  ·split
   ·rw [XC,Xm];exact Km h.2
   ·rw [XC];exact Km h.2
 ·exact h.2
theorem J4 (z:Nat):dMix z<Zg:=Nat.mod_lt _ (by decide)
def XI (O:Orc):Prop:=∀ q∈O.qs,q.ans<Zg
theorem OrcOk.ans {O:Orc} (h:OrcOk O):XI O:=fun q hq=>(h.qs q hq).ans
theorem VD {O:Orc} (h:XI O) (lab:Nat) (el:List Nat):ZM O lab el<Zg:=by
 unfold ZM
 split
 ·split
  ·rename_i a ha
   unfold ZH at ha
   cases hc:O.qs.find? (qIs lab el) with
   | none=>rw [hc] at ha;cases ha
   | some x =>
    rw [hc] at ha
    injection ha with ha
    rw [←ha]
    exact h x (List.mem_of_find?_eq_some hc)
  ·split
   ·exact J4 _
   ·exact Jc _ _
 ·decide
theorem zK {O:Orc} (h:XI O) (lab:Nat) (el:List Nat):XI (ZA O lab el):=by
 unfold ZA
 split
 ·split
  ·exact h
  ·split
   ·intro q hq
    rw [XC,Xm] at hq
    rcases List.mem_append.1 hq with hq | hq
    ·exact h q hq
    ·rw [List.mem_singleton.1 hq];exact J4 _
   ·intro q hq
    rw [XC] at hq
    rcases List.mem_append.1 hq with hq | hq
    ·exact h q hq
    ·rw [List.mem_singleton.1 hq];exact Jc lab el
 ·exact h
def Zv (O:Orc) (lab:Nat) (qs:List (List Nat)):Orc:=qs.foldl (fun o q=>ZA o lab q) O
def Z0 (O:Orc) (lab:Nat) (qs:List (List Nat)):List Nat:=(List.range qs.length).map fun i=>ZM (Zv O lab (qs.take i)) lab (qs.getD i [])
theorem Ud (O:Orc) (lab:Nat) (qs:List (List Nat)) (i:Nat) (h:i<qs.length):Zv O lab (qs.take (i+1))=ZA (Zv O lab (qs.take i)) lab (qs.getD i []):=by
 unfold Zv
 rw [List.take_succ_eq_append_getElem h,List.foldl_append,List.getD_eq_getElem?_getD,List.getElem?_eq_getElem h]
 rfl
theorem KZ (O:Orc) (lab:Nat) (qs:List (List Nat)):Zv O lab (qs.take qs.length)=Zv O lab qs:=by rw [List.take_length]
theorem Yy (O:Orc) (lab:Nat) (qs:List (List Nat)):(Z0 O lab qs).length=qs.length:=by simp [Z0]
theorem UI (O:Orc) (lab:Nat) (qs:List (List Nat)) (i:Nat) (h:i<qs.length):(Z0 O lab qs).getD i 0=ZM (Zv O lab (qs.take i)) lab (qs.getD i []):=by
 simp [Z0,List.getD_eq_getElem?_getD,h]
theorem Vs {O:Orc} {lab:Nat} {el:List Nat} {a:Nat} (h:Yv O lab el a) (lab':Nat):∀ qs:List (List Nat),Yv (Zv O lab' qs) lab el a:=by
 intro qs
 unfold Zv
 induction qs generalizing O with
 | nil=>exact h
 | cons q r ih=>exact ih (UJ h lab' q)
theorem Kh (O:Orc) (lab:Nat) (a b:List (List Nat)):Zv O lab (a++b)=Zv (Zv O lab a) lab b:=by simp [Zv]
theorem UY (O:Orc) (lab:Nat) (qs:List (List Nat)) (hq:∀ q∈qs,ZB q=true) (i:Nat) (h:i<qs.length):Yv (Zv O lab qs) lab (qs.getD i []) ((Z0 O lab qs).getD i 0):=by
 rw [UI O lab qs i h]
 have e:qs=qs.take (i+1)++qs.drop (i+1):=(List.take_append_drop _ _).symm
 have hm:qs.getD i []∈qs:=by rw [List.getD_eq_getElem?_getD,List.getElem?_eq_getElem h];exact List.getElem_mem h
 have h1:=Gk (Zv O lab (qs.take i)) lab (hq _ hm)
 rw [←Ud O lab qs i h] at h1
 have h2:=Vs h1 lab (qs.drop (i+1))
 rw [←Kh,←e] at h2
 exact h2
theorem Xi {O:Orc} (h:XI O) (lab:Nat):∀ qs:List (List Nat),XI (Zv O lab qs):=by
 intro qs
 unfold Zv
 induction qs generalizing O with
 | nil=>exact h
 | cons q r ih=>exact ih (zK h lab q)
theorem X7 {O:Orc} (h:XI O) (lab:Nat) (qs:List (List Nat)):∀ x∈Z0 O lab qs,x<Zg:=fun x hx=>by
 simp only [Z0,List.mem_map] at hx
 obtain ⟨k,_,rfl⟩:=hx
 exact VD (Xi h _ _) _ _
def Zu (l:List Nat):List (List Nat):=(List.range (l.length / 2)).map fun i=>[l.getD (2*i) 0,l.getD (2*i+1) 0]
theorem YW (l:List Nat):(Zu l).length=l.length / 2:=by simp [Zu]
theorem Ju (l:List Nat) (i:Nat) (h:i<l.length / 2):(Zu l).getD i []=[l.getD (2*i) 0,l.getD (2*i+1) 0]:=by simp [Zu,List.getD_eq_getElem?_getD,h]
def ZU:Nat→Orc→List Nat→List (List Nat)
 | 0,_,l=>[l]
 | d+1,O,l=>l :: ZU d (Zv O 17 (Zu l)) (Z0 O 17 (Zu l))
def Vb:Nat→Orc→List Nat→Orc
 | 0,O,_=>O
 | d+1,O,l=>Vb d (Zv O 17 (Zu l)) (Z0 O 17 (Zu l))
theorem XX {lab:Nat} {el:List Nat} {a:Nat}:∀ (d:Nat) {O:Orc} (l:List Nat),Yv O lab el a→Yv (Vb d O l) lab el a
 | 0,_,_,h=>h
 | d+1,_,_,h=>XX d _ (Vs h 17 _)
def YI (ls:List (List Nat)):Nat:=(ls.getLastD []).getD 0 0
def Ys:List (List Nat)→Nat→List Nat
 | [],_=>[]
 | [_],_=>[]
 | l :: m :: r,i=>l.getD (i ^^^ 1) 0 :: Ys (m :: r) (i / 2)
def XT (O:Orc) (lab:Nat) (el:List Nat):Option Nat:=if O.ideal then Y7 O lab el else some (ZM O lab el)
def Yt (O:Orc) (lab:Nat) (el:List Nat):Orc:=if O.ideal then O else ZA O lab el
def XS:List Nat→Orc→Nat→List Nat→Nat→Option Nat
 | [],O,lab,el,_=>XT O lab el
 | p :: r,O,lab,el,i=>(XT O lab el).bind fun a=>XS r (Yt O lab el) 17 (if i%2=1 then [p,a] else [a,p]) (i / 2)
def XN:List Nat→Orc→Nat→List Nat→Nat→Orc
 | [],O,lab,el,_=>Yt O lab el
 | p :: r,O,lab,el,i=>match XT O lab el with | some a=>XN r (Yt O lab el) 17 (if i%2=1 then [p,a] else [a,p]) (i / 2) | none=>Yt O lab el
theorem Jb {O:Orc} {lab:Nat} {el:List Nat} {a:Nat} (h:Yv O lab el a):XT O lab el=some a∧Yt O lab el=O:=by
 obtain ⟨h1,h2,h3⟩:=K7 h
 unfold XT Yt
 cases O.ideal
 ·simp [h1,h2]
 ·simp [h3]
theorem K0 (j:Nat):2*j ^^^ 1=2*j+1:=by
 have:(2*j+1) ^^^ 1=2*j:=by
  apply Nat.eq_of_testBit_eq
  intro i
  rcases i with _ | i
  ·simp [Nat.testBit_zero]
  ·rw [Nat.testBit_xor,Nat.testBit_succ,Nat.testBit_succ,Nat.testBit_succ,show (2*j+1) / 2=j by omega,show 2*j / 2=j by omega]
   simp
 rw [←this,Nat.xor_assoc,Nat.xor_self,Nat.xor_zero,this]
theorem xl (j:Nat):(2*j+1) ^^^ 1=2*j:=by rw [←K0 j,Nat.xor_assoc,Nat.xor_self,Nat.xor_zero]
theorem KF {T:Orc}:∀ (d:Nat) (O:Orc) (l:List Nat) (lab:Nat) (el:List Nat) (i:Nat),l.length=2^d→(∀ x∈l,x<Zg)→(∀ lab el a,Yv (Vb d O l) lab el a→Yv T lab el a)→XI O→i<l.length →
  Yv T lab el (l.getD i 0)→XS (Ys (ZU d O l) i) T lab el i=some (YI (ZU d O l))∧XN (Ys (ZU d O l) i) T lab el i=T
 | 0,O,l,lab,el,i,hl,_,_,_,hi,h=>by
  have:i=0:=by simp at hl;omega
  subst this
  obtain ⟨h1,h2⟩:=Jb h
  exact ⟨by simp [ZU,Ys,XS,h1,YI],by simp [ZU,Ys,XN,h2]⟩
 | d+1,O,l,lab,el,i,hl,hlt,hT,hV,hi,h=>by
  have e2:l.length / 2=2^d:=by rw [hl,Nat.pow_succ];omega
  have hpl:(Z0 O 17 (Zu l)).length=2^d:=by rw [Yy,YW,e2]
  have hev:∀ k,l.getD k 0<Zg:=fun k=>by
   rw [List.getD_eq_getElem?_getD]
   rcases Nat.lt_or_ge k l.length with h1 | h1
   ·rw [List.getElem?_eq_getElem h1];exact hlt _ (List.getElem_mem h1)
   ·rw [List.getElem?_eq_none h1];show 0<Zg;decide
  have hq:∀ q∈Zu l,ZB q=true:=by
   intro q hq
   simp only [Zu,List.mem_map] at hq
   obtain ⟨k,_,rfl⟩:=hq
   simp only [ZB,List.all_cons,List.all_nil,Bool.and_true,Bool.and_eq_true,decide_eq_true_eq]
   exact ⟨hev _,hev _⟩
  have hj:i / 2<l.length / 2:=by
   rw [e2]
   rw [hl,Nat.pow_succ] at hi
   omega
  have ha:=UY O 17 (Zu l) hq (i / 2) (by rw [YW];exact hj)
  rw [Ju l _ hj] at ha
  have ha2:=hT _ _ _ (XX d (Z0 O 17 (Zu l)) ha)
  have ih:=KF d (Zv O 17 (Zu l)) (Z0 O 17 (Zu l)) 17 [l.getD (2*(i / 2)) 0,l.getD (2*(i / 2)+1) 0] (i / 2) hpl (X7 hV 17 _) hT (Xi hV 17 _) (by rw [hpl,←e2];exact hj) ha2
  obtain ⟨h1,h2⟩:=Jb h
  have hcons:∃ m r,ZU d (Zv O 17 (Zu l)) (Z0 O 17 (Zu l))=m :: r:=by cases d <;> exact ⟨_,_,rfl⟩
  obtain ⟨m,r,hmr⟩:=hcons
  have hroot:YI (ZU (d+1) O l)=YI (m :: r):=by simp [ZU,YI,hmr]
  have hpath:Ys (ZU (d+1) O l) i=l.getD (i ^^^ 1) 0 :: Ys (m :: r) (i / 2):=by simp [ZU,hmr,Ys]
  rw [hmr] at ih
  have hel:(if i%2=1 then [l.getD (i ^^^ 1) 0,l.getD i 0] else [l.getD i 0,l.getD (i ^^^ 1) 0])=[l.getD (2*(i / 2)) 0,l.getD (2*(i / 2)+1) 0]:=by
   by_cases h3:i%2=1
   ·have e:i=2*(i / 2)+1:=by omega
    have e3:i ^^^ 1=2*(i / 2):=by
     have:=xl (i / 2)
     rw [show 2*(i / 2)+1=i by omega] at this
     exact this
    rw [if_pos h3,e3,←e]
   ·have e:i=2*(i / 2):=by omega
    have e3:i ^^^ 1=2*(i / 2)+1:=by
     have:=K0 (i / 2)
     rw [show 2*(i / 2)=i by omega] at this
     rw [this];omega
    rw [if_neg h3,e3,←e]
  rw [hroot,hpath]
  refine ⟨?_,?_⟩
  ·simp only [XS,h1,h2,Option.bind_some,hel]
   exact ih.1
  ·simp only [XN,h1,h2,hel]
   exact ih.2
end Go.Proofs.Ytbiieaiahdihnaa
namespace Go.Proofs.Ytbiieaiahdihnaa
open Go.RowKit
def YH (s c k:Nat):List (List Nat):=(List.range k).map fun i=>[s,c+i]
theorem zb (s c k:Nat):(YH s c k).length=k:=by simp [YH]
theorem Gp (O:Orc) (s c i:Nat):Zv O 19 (YH s c (i+1))=ZA (Zv O 19 (YH s c i)) 19 [s,c+i]:=by
 unfold Zv YH
 rw [List.range_succ,List.map_append,List.foldl_append]
 rfl
def Xc (O:Orc) (s c i:Nat):Nat:=ZM (Zv O 19 (YH s c i)) 19 [s,c+i]
def Us (l:List Nat) (i j:Nat):List Nat:=(l.set i (l.getD j 0)).set j (l.getD i 0)
def Z2 (f:Nat→Nat) (n:Nat):Nat→List Nat
 | 0=>List.range n
 | i+1=>Us (Z2 f n i) i (i+f i%(n-i))
theorem zz (l:List Nat) (i j:Nat):(Us l i j).length=l.length:=by simp [Us]
theorem Y0 (f:Nat→Nat) (n:Nat):∀ i,(Z2 f n i).length=n
 | 0=>by simp [Z2]
 | i+1=>by rw [Z2,zz,Y0 f n i]
theorem yT {l:List Nat} {i j x:Nat} (hi:i<l.length) (hj:j<l.length) (h:x∈Us l i j):x∈l:=by
 unfold Us at h
 have hg:∀ k,k<l.length→l.getD k 0∈l:=fun k hk=>by rw [List.getD_eq_getElem?_getD,List.getElem?_eq_getElem hk];exact List.getElem_mem hk
 rcases List.mem_or_eq_of_mem_set h with h | rfl
 ·rcases List.mem_or_eq_of_mem_set h with h | rfl
  ·exact h
  ·exact hg j hj
 ·exact hg i hi
theorem KG (f:Nat→Nat) (n:Nat):∀ i,i≤n→∀ x∈Z2 f n i,x<n
 | 0,_,x,hx=>by simpa [Z2] using hx
 | i+1,h,x,hx=>by
  rw [Z2] at hx
  refine KG f n i (by omega) x (yT (by rw [Y0];omega) (by rw [Y0];have:=Nat.mod_lt (f i) (show 0<n-i by omega);omega) hx)
def Kf (O:Orc) (s c n count:Nat):List Nat:=((Z2 (Xc O s c) n count).take count).mergeSort fun x y=>decide (x≤y)
theorem yP (O:Orc) (s c n count:Nat) (h:count≤n):(Kf O s c n count).length=count:=by
 unfold Kf
 rw [List.length_mergeSort,List.length_take,Y0,Nat.min_eq_left h]
theorem xq (O:Orc) (s c n count:Nat) (h:count≤n):∀ x∈Kf O s c n count,x<n:=fun x hx=>by
 unfold Kf at hx
 rw [List.mem_mergeSort] at hx
 exact KG _ n count h x (List.mem_of_mem_take hx)
def Vr (l:List Oper) (hs bars fs:List Nat):List Nat→Array Bool→Bool
 | [],listed=>(Region.ready .any l.toArray listed).isEmpty
 | i :: rest,listed=>decide (i<l.length)&&(Region.ready .any l.toArray listed).contains i &&
   (if hs.contains i then Region.ready .any l.toArray listed == [i] else Region.free .any l.toArray listed i&&!bars.contains i&&(ZS bars listed||fs.contains i||bars.all fun b=>JK l b i))&&Vr l hs bars fs rest (listed.setIfInBounds i true)
def wpW (P:Program) (l:List Oper) (hs bars fs:List Nat) (Q:Exit→Act→World→Prop) (R:World→World→Prop) (order:List Nat) (listed:Array Bool) (a:Act) (w:World):Prop :=
 Region.noSelect l.toArray=true→Vr l hs bars fs order listed=true→wpB P l.toArray Q bars R order.length listed a w
section
variable {P:Program} {l:List Oper} {hs bars fs:List Nat} {Q:Exit→Act→World→Prop} {R:World→World→Prop} {rest:List Nat} {i:Nat} {o:Oper} {listed:Array Bool} {a:Act} {w:World}
theorem V8 {id:Nat} (R:World→World→Prop) (hs bars fs order:List Nat) (hm:P.follows .mixedOrders=true) (hok:(Region.noSelect l.toArray&&order.length == l.length&&Vr l hs bars fs order (List.replicate l.length false).toArray)=true)
  (h:wpW P l hs bars fs Q R order (List.replicate l.length false).toArray a w.drew):(Code.region id l.toArray true).wp P Q a w:=by
 simp only [Bool.and_eq_true,beq_iff_eq] at hok
 refine wp_region_any hm (Vt (bars:=bars) (S:=R w.drew) _ _ _ _ ?_)
 have h2:=h hok.1.1 hok.2
 have e:Array.replicate l.toArray.size false=(List.replicate l.length false).toArray:=by simp
 rw [hok.1.2] at h2
 rw [e]
 simpa [wpB] using h2
theorem JL (M:ZI R) {order:List Nat} (h:∀ W,R w W→wpW P l hs bars fs Q R order listed a W):wpW P l hs bars fs Q R order listed a w:=h w (M.refl w)
theorem Gy (M:ZI R) {order:List Nat} (h:∀ W,Hid (W=w)→R w W→wpW P l hs bars fs Q R order listed a W):wpW P l hs bars fs Q R order listed a w:=h w rfl (M.refl w)
theorem U0 (h:Q .normal a w):wpW P l hs bars fs Q R [] listed a w:=fun _ hok=>⟨by simpa [Vr] using hok,h⟩
theorem Y8 (h:Vr l hs bars fs (i :: rest) listed=true):i<l.length∧(Region.ready .any l.toArray listed).contains i=true ∧
  (hs.contains i=true→Region.ready .any l.toArray listed=[i]) ∧
  (hs.contains i=false→Region.free .any l.toArray listed i=true∧i ∉ bars∧(ZS bars listed=true∨fs.contains i=true∨∀ b∈bars,JK l b i=true))∧Vr l hs bars fs rest (listed.setIfInBounds i true)=true:=by
 unfold Vr at h
 simp only [Bool.and_eq_true,decide_eq_true_eq] at h
 obtain ⟨⟨⟨h1,h2⟩,h3⟩,h4⟩:=h
 refine ⟨h1,h2,fun h6=>?_,fun h6=>?_,h4⟩
 ·rw [if_pos h6] at h3
  simpa using h3
 ·rw [if_neg (by rw [h6];exact Bool.noConfusion)] at h3
  simp only [Bool.and_eq_true,Bool.not_eq_true',Bool.or_eq_true,List.all_eq_true] at h3
  refine ⟨h3.1.1,fun hm=>?_,by rcases h3.2 with (h | h) | h;exact .inl h;exact .inr (.inl h);exact .inr (.inr h)⟩
  have:=h3.1.2
  simp [hm] at this
theorem YV {v:Value} (M:ZI R) (hh:hs.contains i=false) (hf:fs.contains i=false) (ho:l[i]?=some o) (hw:Region.wanted o (yielded l.toArray a.tmps)=true) (hQ:∀ c a w,Q (.panic c) (a.put o.dst v) w→Q (.panic c) a w)
  (hrun:∀ w',(ZS bars listed=false→R w w')→(execOp a.eval o).run P w'= .ok (.value v) w') (h:wpW P l hs bars fs Q R rest (listed.setIfInBounds i true) (a.put o.dst v) w):wpW P l hs bars fs Q R (i :: rest) listed a w:=by
 intro hn hok
 obtain ⟨h1,h2,-,h4,h5⟩:=Y8 hok
 obtain ⟨f1,f2,f3⟩:=h4 hh
 have hoa:l.toArray[i]?=some o:=by rw [List.getElem?_toArray];exact ho
 cases hp:ZS bars listed
 ·refine Z3 (T:=R w) hoa (Region.noSelect_spec hn) hQ f2 (.inr ⟨fun _ h=>h,fun b hb ob hob=>Vp hob ?_⟩) _ _ _ _ (.inr hp) (Region.free_spec hoa f1) (by simpa using h2) (.inl ⟨hw,fun w' hR=>hrun w' fun _=>hR⟩) (M.refl w) (fun _=>M.refl w) (h hn h5)
  rcases f3 with f3 | f3 | f3
  ·rw [hp] at f3;cases f3
  ·rw [hf] at f3;cases f3
  ·exact f3 b hb
 ·exact Z3 (T:=fun _=>True) hoa (Region.noSelect_spec hn) hQ f2 (.inl fun _=>trivial) _ _ _ _ (.inl fun _=>trivial) (Region.free_spec hoa f1) (by simpa using h2) (.inl ⟨hw,fun w' _=>hrun w' fun h=>by rw [hp] at h;cases h⟩) trivial (fun _=>M.refl w) (h hn h5)
theorem Xe {v:Value} (M:ZI R) (hh:hs.contains i=false) (ho:l[i]?=some o) (hw:Region.wanted o (yielded l.toArray a.tmps)=true) (hQ:∀ c a w,Q (.panic c) (a.put o.dst v) w→Q (.panic c) a w)
  (hrun:∀ w',(execOp a.eval o).run P w'= .ok (.value v) w') (h:wpW P l hs bars fs Q R rest (listed.setIfInBounds i true) (a.put o.dst v) w):wpW P l hs bars fs Q R (i :: rest) listed a w:=by
 intro hn hok
 obtain ⟨h1,h2,-,h4,h5⟩:=Y8 hok
 obtain ⟨f1,f2,-⟩:=h4 hh
 have hoa:l.toArray[i]?=some o:=by rw [List.getElem?_toArray];exact ho
 exact Z3 (T:=fun _=>True) hoa (Region.noSelect_spec hn) hQ f2 (.inl fun _=>trivial) _ _ _ _ (.inl fun _=>trivial) (Region.free_spec hoa f1) (by simpa using h2) (.inl ⟨hw,fun w' _=>hrun w'⟩) trivial (fun _=>M.refl w) (h hn h5)
theorem Xl (M:ZI R) (hh:hs.contains i=false) (ho:l[i]?=some o) (hw:Region.wanted o (yielded l.toArray a.tmps)=false) (hQ:∀ c a w,Q (.panic c) (a.put o.dst undef) w→Q (.panic c) a w)
  (h:wpW P l hs bars fs Q R rest (listed.setIfInBounds i true) (a.put o.dst undef) w):wpW P l hs bars fs Q R (i :: rest) listed a w:=by
 intro hn hok
 obtain ⟨h1,h2,-,h4,h5⟩:=Y8 hok
 obtain ⟨f1,f2,f3⟩:=h4 hh
 have hoa:l.toArray[i]?=some o:=by rw [List.getElem?_toArray];exact ho
 exact Z3 (T:=fun _=>True) hoa (Region.noSelect_spec hn) hQ f2 (.inl fun _=>trivial) _ _ _ _ (.inl fun _=>trivial) (Region.free_spec hoa f1) (by simpa using h2) (.inr ⟨hw,rfl⟩) trivial (fun _=>M.refl w) (h hn h5)
theorem YT (M:ZI R) (hh:hs.contains i=true) (ho:l[i]?=some o) (hw:Region.wanted o (yielded l.toArray a.tmps)=true)
  (h:o.wp P a w (fun a' w'=>(ZS bars (listed.setIfInBounds i true)=false→R w w')∧wpW P l hs bars fs Q R rest (listed.setIfInBounds i true) a' w') Q):wpW P l hs bars fs Q R (i :: rest) listed a w:=by
 intro hn hok
 obtain ⟨h1,h2,h3,-,h5⟩:=Y8 hok
 have hr:=h3 hh
 refine ⟨fun h0=>absurd (hr ▸ h0) (by simp),fun j hj=>?_⟩
 rw [hr,List.mem_singleton] at hj
 subst hj
 unfold wpOp
 have hi:l.toArray[j]?=some o:=by rw [List.getElem?_toArray];exact ho
 simp only [hi,hw,if_true]
 refine .inl (Oper.wp_mono (fun a' w' h'=>⟨h'.1,?_⟩) h)
 have hk:=h'.2 hn h5
 cases hp:ZS bars (listed.setIfInBounds j true)
 ·exact Vj (fun w2 h2=>M.trans _ _ _ (h'.1 hp) h2) _ _ _ _ hk
 ·exact XK _ _ _ _ hp hk
end
abbrev yY:=(Nat→Value)→(Nat→Prop)→World→Prop
structure zN where
 i:Nat
 deps:List Nat
 eat:List Nat
def G1 (l:List Oper) (j:Nat):Option Tmp:=(l[j]?).bind (·.dst)
def xE (l:List Oper) (vs:Nat→Value) (a:Act) (js:List Nat):Act:=js.foldl (fun a j=>a.put (G1 l j) (vs j)) a
def Eff (B:Nat) (X:Nat→Prop) (w w':World):Prop:=w'.os=w.os∧w'.tape=w.tape∧w'.output=w.output∧w.heap.size≤w'.heap.size∧∀ b,b<B→¬X b→w'.heap[b]?=w.heap[b]?
def Own (B:Nat) (X:Nat→Prop) (own:Nat→Nat) (w:World) (i:Nat):Nat→Prop:=fun b=>b<w.heap.size∧(B≤b∨X b)∧own b=i
def Does (P:Program) (x:Sem Next) (w:World) (K:Value→World→Prop):Prop :=
 (∃ v w',x.run P w= .ok (.value v) w'∧K v w')∨(∃ w',x.run P w= .ok .skip w'∧K undef w')∨(∃ f vals,x.run P w= .ok (.enter f vals) w∧Calls P f vals w fun e w'=>∃ v,e= .returned v∧K v w')
def xL (l:List Oper) (i j:Nat):Bool:=match l[i]? with | some o=>(o.after.any fun e=>Region.binds .any e&&e.on == j) | none=>false
def yQ (l:List Oper) (i:Nat):List Tmp:=match l[i]? with | some o=>(o.op.operands.toList.filterMap fun | .tmp t=>some t | _=>none) | none=>[]
def yL (l:List Oper) (L0:Array Bool):List Nat→List Nat→Bool
 | _,[]=>true
 | pre,i :: rest=>(match l[i]? with | some o=>o.guard.isNone&&!L0.getD i true&&o.after.all (fun e=>!Region.binds .any e||L0.getD e.on false||(pre.contains e.on&&decide (e.on<l.length))) | none=>true)&&yL l L0 (i :: pre) rest
section
variable {P:Program} {l:List Oper} {Q:Exit→Act→World→Prop} {R:World→World→Prop} {T:List zN} {p:Nat→yY} {B:Nat} {X:Nat→Prop} {w0:World} {a0:Act} {L0:Array Bool}
structure OwnAt (l:List Oper) (T:List zN) (p:Nat→yY) (B:Nat) (X:Nat→Prop) (w0:World) (a0:Act) (L0 L:Array Bool) (vs:Nat→Value) (own:Nat→Nat) (a:Act) (w:World):Prop where
 size:L.size=l.length
 old:∀ i:Nat,L0.getD i true=true→L.getD i true=true
 new:∀ i:Nat,L.getD i true=true→L0.getD i true=true∨∃ t∈T,t.i=i
 eff:Eff B X w0 w
 act:a=xE l vs a0 ((T.map (·.i)).filter fun j=>L.getD j true&&!L0.getD j true)
 facts:∀ s∈T,L.getD s.i true=true→(∀ k∈T,s.i∈k.eat→L.getD k.i true=false)→p s.i vs (Own B X own w s.i) w
structure OkOwn (l:List Oper) (T:List zN) (L0:Array Bool):Prop where
 size:L0.size=l.length
 nodup:(T.map (·.i)).Nodup
 topo:yL l L0 [] (T.map (·.i))=true
 dst:∀ s∈T,∀ t∈T,s.i≠t.i→∀ x,G1 l s.i=some x→G1 l t.i≠some x
 opers:∀ s∈T,∀ x∈yQ l s.i,∀ t∈T,G1 l t.i=some x→t.i∈s.deps
 deps:∀ s∈T,∀ j∈s.deps,(∃ t∈T,t.i=j)∧(l.length≤j∨xL l s.i j=true)
 eat:∀ s∈T,∀ j∈s.eat,j∈s.deps∧∀ t∈T,t.i≠s.i→j ∉ t.deps
 tail:∀ i,i<l.length→L0.getD i true=false→(∀ t∈T,t.i≠i)→(∀ t∈T,l.length≤t.i∨xL l i t.i=true)∨∃ j,j<l.length∧L0.getD j true=false∧(∀ t∈T,t.i≠j)∧xL l i j=true
structure OwnMore (l:List Oper) (T:List zN) (L:Array Bool) (own:Nat→Nat) (w:World):Prop where
 own:∀ b,b<w.heap.size→L.getD (own b) true=true
 deps:∀ t∈T,L.getD t.i true=true→∀ j∈t.deps,L.getD j true=true
end
def From (B:Nat) (w w':World):Prop:=Below B w w'
theorem KE {B:Nat} (w:World) {g i:Nat} (v:Value) (hg:B≤g):From B w (w.setCell ⟨g,i,none⟩ v):=(Below.refl B w).setCell (p:=⟨g,i,none⟩) hg v
section
variable {P:Program} {l:List Oper} {Q:Exit→Act→World→Prop} {R:World→World→Prop} {rest:List Nat} {fuel i:Nat} {o:Oper} {listed:Array Bool} {a:Act} {w:World}
end
section
variable {P:Program} {l:List Oper} {Q:Exit→Act→World→Prop} {R:World→World→Prop} {T:List zN} {ps:List (Nat × yY)} {B:Nat} {w0:World} {a0:Act} {L0:Array Bool}
end
section
variable {p:Nat→yY} {B:Nat} {X:Nat→Prop} {w0:World} {s:zN}
end
def UC (l:List Oper) (i j:Nat):Bool:=match l[i]?,l[j]? with
 | some x,some y=>x.apart l.toArray y
 | _,_=>false
def UG (l:List Oper) (hs tail:List Nat) (j:Nat):List Nat→Array Bool→Bool
 | [],L=>decide (j<l.length)&&Region.ready .any l.toArray L == [j]&&Ul l hs tail (L.setIfInBounds j true)
 | i :: rest,L=>decide (i<l.length)&&decide (j<l.length)&&decide (i≠j)&&UC l i j&&Region.free .any l.toArray L i&&(Region.ready .any l.toArray L).contains i &&
   Region.free .any l.toArray (L.setIfInBounds j true) i&&(Region.ready .any l.toArray (L.setIfInBounds j true)).contains i &&
   (!hs.contains i||((Region.ready .any l.toArray L == [i]||Region.ready .any l.toArray L == [i,j]||Region.ready .any l.toArray L == [j,i])&&Region.ready .any l.toArray (L.setIfInBounds j true) == [i])) &&
   UG l hs tail j rest (L.setIfInBounds i true)
def xy (P:Program) (o:Oper) (t:TypeId) (z:Array Value):Prop:=o.guard=none∧∀ a w,(execOp a o).run P w= .ok (.value (.pointer (some ⟨w.heap.size,0,none⟩))) (w.alloc (.cells z t))
section
variable {P:Program} {l:List Oper} {hs tail:List Nat} {Q:Exit→Act→World→Prop} {N j:Nat} {t:TypeId} {z:Array Value} {rest:List Nat} {i:Nat} {o:Oper} {listed:Array Bool} {a:Act} {w:World}
theorem XE (h:UG l hs tail j (i :: rest) listed=true):(i<l.length∧j<l.length∧i≠j∧UC l i j=true)∧(Region.free .any l.toArray listed i=true∧(Region.ready .any l.toArray listed).contains i=true) ∧
  (Region.free .any l.toArray (listed.setIfInBounds j true) i=true∧(Region.ready .any l.toArray (listed.setIfInBounds j true)).contains i=true) ∧
  (hs.contains i=true→(Region.ready .any l.toArray listed=[i]∨Region.ready .any l.toArray listed=[i,j]∨Region.ready .any l.toArray listed=[j,i])∧Region.ready .any l.toArray (listed.setIfInBounds j true)=[i])∧UG l hs tail j rest (listed.setIfInBounds i true)=true:=by
 unfold UG at h
 simp only [Bool.and_eq_true,Bool.or_eq_true,Bool.not_eq_true',decide_eq_true_eq,beq_iff_eq] at h
 obtain ⟨⟨⟨⟨⟨⟨⟨⟨⟨h1,h2⟩,h3⟩,h4⟩,h5⟩,h6⟩,h7⟩,h8⟩,h9⟩,h10⟩:=h
 refine ⟨⟨h1,h2,h3,h4⟩,⟨h5,h6⟩,⟨h7,h8⟩,fun h=>?_,h10⟩
 rcases h9 with h9 | h9
 ·rw [h] at h9;cases h9
 ·refine ⟨?_,h9.2⟩
  rcases h9.1 with (x | x) | x
  ·exact .inl x
  ·exact .inr (.inl x)
  ·exact .inr (.inr x)
theorem VO {oj:Oper} (h:UC l i j=true) (ho:l[i]?=some o) (hoj:l[j]?=some oj):o.apart l.toArray oj=true:=by
 unfold UC at h
 rw [ho,hoj] at h
 exact h
end
theorem Gz {w:World} {base:Nat} {e:TypeId} {size:Nat} {v:Value} {n:Nat} {xs:List Value} {g:Nat} {t:TypeId} {cs:Array Value} (h:w.ownsRow base e size v n xs) (k:Blk w g t cs) (ht:t≠e):∀ q,v.ownBlock=some q→some g=some q→False:=fun q hq hg=>by
 obtain rfl:=Option.some.inj hg
 obtain ⟨h1,h2⟩:=h
 rcases h2 with ⟨rfl,-⟩ | ⟨q,cap,cur,rfl,-,hh,-⟩
 ·cases hq
 ·obtain rfl:q=g:=Option.some.inj hq
  unfold Blk at k
  rw [hh] at k
  cases k
  exact ht rfl
end Go.Proofs.Ytbiieaiahdihnaa
