/- A part of the proof. No condition. -/
import Derived.Test.YtdhhdplholkmdaaGreatProg
import Derived.Test.YtdhhdplholkmdaaGreatPC11
import Derived.Test.YtdhhdplholkmdaaGreatPC13
import Derived.Test.YtdhhdplholkmdaaGreatPC12
import Derived.Test.YtdhhdplholkmdaaGreatPC14
import Derived.Maps.OwnOps
import Derived.Maps.OwnSet

namespace Go.Proofs.YtdhhdplholkmdaaGreat
open Go.RowKit
theorem zEy (f:Nat→Nat) (n k:Nat):Ua n (zk (fun i=>if i<k then f i else 0) k (f k))=Ua n fun i=>if i<k+1 then f i else 0:=by
 refine zBj fun i _=>?_
 simp only [zk]
 by_cases h:i=k
 ·subst h;rw [if_pos rfl,if_pos (by omega)]
 ·rw [if_neg h]
  by_cases h2:i<k
  ·rw [if_pos h2,if_pos (by omega)]
  ·rw [if_neg h2,if_neg (by omega)]
def YR:Nat:=18446744069414584321
theorem zA5:okP YR=true:=by decide
def St.lt (p:Nat) (s:St):Prop:=s.a<p∧s.b<p∧s.c<p
theorem jk {p:Nat} (hp:0<p) (s:St):(Uj p s).lt p:=⟨Nat.mod_lt _ hp,Nat.mod_lt _ hp,Nat.mod_lt _ hp⟩
theorem zA2 {p:Nat} (hp:0<p):∀ (l:List Nat) (s:St),s.lt p→(Uw p l s).lt p
 | [],_,h=>h
 | [_],_,_=>jk hp _
 | _ :: _ :: r,_,_=>zA2 hp r _ (jk hp _)
end Go.Proofs.YtdhhdplholkmdaaGreat
namespace Go.Proofs.YtdhhdplholkmdaaGreat
open Go.RowKit Go.Maps
structure Qn where
 lab:Nat
 el:List Nat
 ans:Nat
structure Orc where
 ideal:Bool
 st:Nat
 dr:Nat
 qs:List Qn
def Xl (l:List Nat):Bool:=l.all fun x=>decide (x<YR)
def spH (lab:Nat) (l:List Nat):Nat:=(X8 YR lab l).a
theorem G2 (lab:Nat) (l:List Nat):spH lab l<YR:=(zA2 (p:=YR) (by decide) l ⟨0,0,(lab*65536%YR+l.length)%YR⟩ ⟨show 0<YR by decide,show 0<YR by decide,Nat.mod_lt _ (by decide)⟩).1
def UK (s:Nat):Nat:=(s+11400714819323198485)%18446744073709551616
def zV (z:Nat):Nat:=(z ^^^ (z >>> 30))*13787848793156543929%18446744073709551616
def yh (z:Nat):Nat:=(z ^^^ (z >>> 27))*10723151780598845931%18446744073709551616
def zZ (z:Nat):Nat:=(z ^^^ (z >>> 31))%YR
def dMix (z:Nat):Nat:=zZ (yh (zV z))
def qIs (lab:Nat) (el:List Nat) (q:Qn):Bool:=q.lab == lab&&q.el == el
def Yf (qs:List Qn) (lab:Nat) (el:List Nat):Option Nat:=(qs.find? (qIs lab el)).map (·.ans)
def VD (O:Orc) (lab:Nat) (el:List Nat) (a:Nat):Orc:=⟨O.ideal,O.st,O.dr,O.qs++[⟨lab,el,a⟩]⟩
def Xd (O:Orc):Orc:=⟨O.ideal,UK O.st,O.dr+1,O.qs⟩
def XX (O:Orc):Nat:=dMix (UK O.st)
def zY (O:Orc) (lab:Nat) (el:List Nat):Option Nat :=
 if Xl el then (match Yf O.qs lab el with | some a=>some a | none=>if O.ideal then none else some (spH lab el)) else none
def Yl (O:Orc) (lab:Nat) (el:List Nat):Nat :=
 if Xl el then (match Yf O.qs lab el with | some a=>a | none=>if O.ideal then XX O else spH lab el) else 0
def Z3 (O:Orc) (lab:Nat) (el:List Nat):Orc :=
 if Xl el then (match Yf O.qs lab el with | some _=>O | none=>if O.ideal then VD (Xd O) lab el (XX O) else VD O lab el (spH lab el)) else O
def newO (ideal:Bool) (seed:Nat):Orc:=⟨ideal,seed,0,[]⟩
def X9:List Nat→List Nat
 | []=>[]
 | x :: r=>Up x 8++X9 r
theorem Ub:∀ (a b:List Nat),X9 (a++b)=X9 a++X9 b
 | [],b=>rfl
 | x :: r,b=>by simp [X9,Ub r b]
theorem JY:∀ (l:List Nat),(X9 l).length=8*l.length
 | []=>rfl
 | x :: r=>by simp [X9,JY r,GO];omega
theorem zAj:∀ (k n:Nat),∀ x∈Up n k,x<256
 | 0,_,x,h=>by simp [Up] at h
 | k+1,n,x,h=>by
  simp only [Up,List.mem_cons] at h
  rcases h with rfl | h
  ·omega
  ·exact zAj k _ x h
theorem yN:∀ (l:List Nat),∀ x∈X9 l,x<256
 | [],x,h=>by simp [X9] at h
 | y :: r,x,h=>by
  simp only [X9,List.mem_append] at h
  rcases h with h | h
  ·exact zAj 8 y x h
  ·exact yN r x h
theorem xS:∀ (k a b:Nat),a<256^k→b<256^k→Up a k=Up b k→a=b
 | 0,a,b,ha,hb,_=>by simp at ha hb;omega
 | k+1,a,b,ha,hb,h=>by
  simp only [Up,List.cons.injEq] at h
  rw [Nat.pow_succ] at ha hb
  have:=xS k (a / 256) (b / 256) (by omega) (by omega) h.2
  omega
theorem xN:∀ {a b:List Nat},(∀ x∈a,x<18446744073709551616)→(∀ x∈b,x<18446744073709551616)→X9 a=X9 b→a=b
 | [],[],_,_,_=>rfl
 | [],y :: r,_,_,h=>by have:=congrArg List.length h;simp [JY] at this
 | y :: r,[],_,_,h=>by have:=congrArg List.length h;simp [JY] at this
 | x :: r,y :: s,ha,hb,h=>by
  simp only [X9] at h
  obtain ⟨h1,h2⟩:=List.append_inj h (by simp [GO])
  have e1:=xS 8 x y (by have:=ha x (by simp);omega) (by have:=hb y (by simp);omega) h1
  have e2:=xN (fun z hz=>ha z (by simp [hz])) (fun z hz=>hb z (by simp [hz])) h2
  rw [e1,e2]
theorem zCo:∀ {a b:List Nat},(∀ x∈a,x<256)→(∀ x∈b,x<256)→a.map (fun n=>UInt8.ofNat n)=b.map (fun n=>UInt8.ofNat n)→a=b
 | [],[],_,_,_=>rfl
 | [],y :: r,_,_,h=>by simp at h
 | y :: r,[],_,_,h=>by simp at h
 | x :: r,y :: s,ha,hb,h=>by
  simp only [List.map_cons,List.cons.injEq] at h
  have e1:x=y:=by
   have h3:=congrArg UInt8.toNat h.1
   simp only [UInt8.toNat_ofNat'] at h3
   have:=ha x (by simp)
   have:=hb y (by simp)
   omega
  rw [e1,zCo (fun z hz=>ha z (by simp [hz])) (fun z hz=>hb z (by simp [hz])) h.2]
def UM (lab:Nat) (el:List Nat):Lit:=.string ((X9 (lab :: el)).map fun n=>UInt8.ofNat n)
theorem xO (lab:Nat) (el:List Nat):WideAt.IsKeyLit (UM lab el):=trivial
theorem YJ {a:Nat} {l:List Nat} {B:Nat} (h:a<B) (hl:∀ x∈l,x<B):∀ x∈a :: l,x<B:=fun x hx=>by
 rcases List.mem_cons.1 hx with rfl | hx
 ·exact h
 ·exact hl x hx
theorem xZ {lab lab':Nat} {el el':List Nat} (h1:lab<18446744073709551616) (h2:lab'<18446744073709551616) (h3:∀ x∈el,x<18446744073709551616) (h4:∀ x∈el',x<18446744073709551616) (h:UM lab el=UM lab' el'):lab=lab'∧el=el':=by
 unfold UM at h
 injection h with h
 have:=xN (a:=lab :: el) (b:=lab' :: el') (YJ h1 h3) (YJ h2 h4) (zCo (yN _) (yN _) h)
 injection this with e1 e2
 exact ⟨e1,e2⟩
def U6 (qs:List Qn):DataW Unit × Nat:=qs.foldl (fun s q=>(s.1.put (UM q.lab q.el) (.lit (.int .i64 (s.2:Int))),s.2+1)) (.map [],0)
def VP (qs:List Qn):DataW Unit:=(U6 qs).1
theorem KN (qs:List Qn) (q:Qn):U6 (qs++[q])=((U6 qs).1.put (UM q.lab q.el) (.lit (.int .i64 ((U6 qs).2:Int))),(U6 qs).2+1):=by simp [U6,List.foldl_append]
theorem J0 {p:List Qn→Prop} (h0:p []) (h1:∀ l q,p l→p (l++[q])) (l:List Qn):p l:=by
 have:∀ n (l:List Qn),l.length=n→p l:=by
  intro n
  induction n with
  | zero=>intro l hl;rw [List.eq_nil_of_length_eq_zero hl];exact h0
  | succ n ih =>
   intro l hl
   have hne:l≠[]:=fun e=>by rw [e] at hl;simp at hl
   rw [←List.dropLast_concat_getLast hne]
   exact h1 _ _ (ih _ (by simp [hl]))
 exact this _ l rfl
theorem kQ (qs:List Qn):(U6 qs).2=qs.length:=J0 (p:=fun qs=>(U6 qs).2=qs.length) rfl (fun l q h=>by rw [KN];simp [h]) qs
theorem V9 (qs:List Qn) (q:Qn):VP (qs++[q])=(VP qs).put (UM q.lab q.el) (.lit (.int .i64 (qs.length:Int))):=by
 unfold VP;rw [KN,kQ]
theorem G5 (qs:List Qn):IsMap (VP qs):=J0 (p:=fun qs=>IsMap (VP qs)) isMap_empty (fun l q h=>by rw [V9];exact h.put _ _) qs
theorem Gv {l:List Nat} (h:Xl l=true):∀ x∈l,x<18446744073709551616:=fun x hx=>by
 have:=of_decide_eq_true (List.all_eq_true.1 h x hx)
 unfold YR at this
 omega
structure QnOk (q:Qn):Prop where
 lab:q.lab<18446744073709551616
 el:Xl q.el=true
 ans:q.ans<YR
 len:q.el.length≤1000000
structure OrcOk (O:Orc):Prop where
 st:O.st<18446744073709551616
 qs:∀ q∈O.qs,QnOk q
 apart:O.qs.Pairwise fun a b=>¬(a.lab=b.lab∧a.el=b.el)
 real:O.ideal=false→∀ q∈O.qs,q.ans=spH q.lab q.el
theorem J4 {lab:Nat} {el:List Nat} {q:Qn}:qIs lab el q=true↔q.lab=lab∧q.el=el:=by simp [qIs]
theorem zBz {qs:List Qn} {lab:Nat} {el:List Nat} (h1:lab<18446744073709551616) (h2:∀ x∈el,x<18446744073709551616):(∀ q∈qs,QnOk q)→Maps.has (VP qs) (UM lab el)=(Yf qs lab el).isSome:=by
 refine J0 (p:=fun qs=>(∀ q∈qs,QnOk q)→Maps.has (VP qs) (UM lab el)=(Yf qs lab el).isSome) (fun _=>rfl) (fun l q ih hq=>?_) qs
 have ih:=ih fun x hx=>hq x (by simp [hx])
 have hk:=hq q (by simp)
 rw [V9]
 by_cases e:UM lab el=UM q.lab q.el
 ·obtain ⟨e1,e2⟩:=xZ h1 hk.lab h2 (Gv hk.el) e
  rw [e,has_put_same (G5 l) (xO _ _)]
  unfold Yf
  rw [Option.isSome_map,List.find?_isSome.2 ⟨q,by simp,J4.2 ⟨e1.symm,e2.symm⟩⟩]
 ·rw [has_put_other e,ih]
  unfold Yf
  rw [List.find?_append]
  have:qIs lab el q=false:=by
   cases hc:qIs lab el q
   ·rfl
   ·obtain ⟨e1,e2⟩:=J4.1 hc
    exact absurd (by rw [e1,e2]) e
  simp [this]
theorem zEl {qs:List Qn} {lab:Nat} {el:List Nat} (h1:lab<18446744073709551616) (h2:∀ x∈el,x<18446744073709551616):(∀ q∈qs,QnOk q)→(qs.Pairwise fun a b=>¬(a.lab=b.lab∧a.el=b.el))→∀ a,Yf qs lab el=some a→∃ (i:Nat) (q:Qn),qs[i]?=some q∧q.ans=a∧∀ z,(VP qs).atKey (UM lab el) z= .lit (.int .i64 (i:Int)):=by
 refine J0 (p:=fun qs=>(∀ q∈qs,QnOk q)→(qs.Pairwise fun a b=>¬(a.lab=b.lab∧a.el=b.el))→∀ a,Yf qs lab el=some a→∃ (i:Nat) (q:Qn),qs[i]?=some q∧q.ans=a∧∀ z,(VP qs).atKey (UM lab el) z= .lit (.int .i64 (i:Int))) (fun _ _ a h=>by simp [Yf] at h) (fun l q ih hq hp a ha=>?_) qs
 have hk:=hq q (by simp)
 rw [List.pairwise_append] at hp
 have ih:=ih (fun x hx=>hq x (by simp [hx])) hp.1 a
 rw [V9]
 by_cases e:UM lab el=UM q.lab q.el
 ·obtain ⟨e1,e2⟩:=xZ h1 hk.lab h2 (Gv hk.el) e
  refine ⟨l.length,q,by simp,?_,fun z=>by rw [e];exact atKey_put_same (G5 l) (xO _ _) _ _⟩
  unfold Yf at ha
  rw [List.find?_append] at ha
  have hn:l.find? (qIs lab el)=none:=List.find?_eq_none.2 fun x hx hc=>by
   obtain ⟨e3,e4⟩:=J4.1 hc
   exact hp.2.2 x hx q (by simp) ⟨by rw [e3,e1],by rw [e4,e2]⟩
  rw [hn] at ha
  simp [qIs,e1.symm,e2.symm] at ha
  exact ha
 ·have hq2:qIs lab el q=false:=by
   cases hc:qIs lab el q
   ·rfl
   ·obtain ⟨e1,e2⟩:=J4.1 hc
    exact absurd (by rw [e1,e2]) e
  have:Yf l lab el=some a:=by
   unfold Yf at ha ⊢
   rw [List.find?_append] at ha
   simpa [hq2] using ha
  obtain ⟨i,q',h3,h4,h5⟩:=ih this
  exact ⟨i,q',by rw [List.getElem?_append_left (Array.getElem?_eq_some_iff.1 (by simpa using (show l.toArray[i]?=some q' by simpa using h3))).1];exact h3,h4,fun z=>by rw [atKey_put_other e];exact h5 z⟩
end Go.Proofs.YtdhhdplholkmdaaGreat
namespace Go.Proofs.YtdhhdplholkmdaaGreat
open Go.RowKit Go.Maps
def KRd (K:Nat→Prop) (w:World) (v:Value) (l:List Nat):Prop:=∀ u:World,(∀ b,K b→b<w.heap.size→u.heap[b]?=w.heap[b]?)→RWd u [v] l
section
variable {K K' F F' F'':Nat→Prop} {w w' w'' u:World} {v:Value} {l:List Nat}
theorem VB (h:KRd K w v l):RWd w [v] l:=h w fun _ _ _=>rfl
theorem VN (h:KRd K w v l) (hs:w.heap.size≤w'.heap.size) (hw:∀ b,K b→b<w.heap.size→w'.heap[b]?=w.heap[b]?):KRd K w' v l :=
 fun u hu=>h u fun b hb hl=>(hu b hb (by omega)).trans (hw b hb hl)
theorem jB (h:KRd K w v l) (hk:∀ b,K b→K' b):KRd K' w v l:=fun u hu=>h u fun b hb hl=>hu b (hk b hb) hl
theorem Uh (h:KRd K w v l) (hb:Below w.heap.size w w'):KRd K w' v l:=VN h hb.size fun b _ hl=>hb.block b hl
theorem ZT {base n size:Nat} {e:TypeId} {xs:List Value} (h:w.ownsRow base e size v n xs) (ha:∀ b,v.ownBlock=some b→u.heap[b]?=w.heap[b]?):u.ownsRow base e size v n xs:=by
 obtain ⟨h1,h2⟩:=h
 refine ⟨h1,?_⟩
 rcases h2 with h2 | ⟨g,cap,cur,hv,hgb,hh,r⟩
 ·exact Or.inl h2
 ·exact Or.inr ⟨g,cap,cur,hv,hgb,by rw [ha g (by rw [hv];rfl)];exact hh,r⟩
theorem Gl {base n:Nat} {e:TypeId} (h:w.ownsRow base e 1 v n (U64 l)) (hl:∀ x∈l,x<18446744073709551616):KRd (fun b=>v.ownBlock=some b) w v l:=fun u hu=>by
 have ho:=ZT h fun b hb=>hu b hb (h.lt b hb).2
 obtain ⟨A,c,rfl,-⟩:=Yd ho
 exact Vj ho hl
theorem zAo {g n:Nat} {t:TypeId} (h:Blk w g t (U64 l).toArray) (hn:l.length=n) (hl:∀ x∈l,x<18446744073709551616) (hm:n≤maxLen):KRd (fun b=>b=g) w (.slice (some ⟨g,0,none⟩) n n) l:=fun u hu=>by
 subst hn
 exact zAa (t:=t) ((hu g rfl h.lt).trans h) hl hm
theorem zEu (h:KRd K w v l):∃ A c,v= .slice A l.length c∧l.length≤c∧c≤maxLen∧(∀ x∈l,x<18446744073709551616):=by
 obtain ⟨A,n,c,h1,h2,h3,h4,h5⟩:=VB h
 obtain ⟨rfl,h6,h7,h8,h9⟩:=YY (w:=w) (A:=A) (n:=n) (c:=c) (l:=l) ⟨A,n,c,rfl,h2,h3,h4,h5⟩
 injection h1 with h1
 exact ⟨A,c,h1,h6,h7,h8⟩
structure Moved (F F':Nat→Prop) (w w':World):Prop where
 os:w'.os=w.os
 tape:w'.tape=w.tape
 output:w'.output=w.output
 size:w.heap.size≤w'.heap.size
 block:∀ b,b<w.heap.size→¬F b→w'.heap[b]?=w.heap[b]?
 foot:∀ b,F' b→F b∨w.heap.size≤b
theorem Moved.refl:Moved F F w w:=⟨rfl,rfl,rfl,Nat.le_refl _,fun _ _ _=>rfl,fun _ h=>.inl h⟩
theorem Moved.trans (h:Moved F F' w w') (k:Moved F' F'' w' w''):Moved F F'' w w'' :=
 ⟨k.os.trans h.os,k.tape.trans h.tape,k.output.trans h.output,Nat.le_trans h.size k.size,fun b hb hn=>(k.block b (by have:=h.size;omega) (fun hf=>by rcases h.foot b hf with e | e;exact hn e;omega)).trans (h.block b hb hn),
  fun b hb=>by
   rcases k.foot b hb with e | e
   ·exact h.foot b e
   ·exact .inr (Nat.le_trans h.size e)⟩
theorem Zp (h:Below w.heap.size w w'):Moved F F w w':=⟨h.os,h.tape,h.output,h.size,fun b hb _=>h.block b hb,fun _ h=>.inl h⟩
theorem Vx {row:Option Nat} (h:w.grownBy w' row) (hr:∀ b,row=some b→F b):Moved F F w w':=⟨h.os,h.tape,h.output,h.size,fun b hb hn=>h.block b hb (fun e=>hn (hr b e.symm)),fun _ h=>.inl h⟩
theorem JO (h:Moved F F' w w') (hf:∀ b,F'' b→F' b∨w.heap.size≤b):Moved F F'' w w':=⟨h.os,h.tape,h.output,h.size,h.block,fun b hb=>by
 rcases hf b hb with e | e
 ·exact h.foot b e
 ·exact .inr e⟩
theorem YF (h:Moved F F' w w'):Moved F F' w w'.drew:=⟨h.os,h.tape,h.output,h.size,h.block,h.foot⟩
theorem Yu (h:Moved F F' w w') {b:Nat} (hb:b<w.heap.size) (hn:¬F b):¬F' b:=fun hf=>by
 rcases h.foot b hf with e | e
 ·exact hn e
 ·omega
theorem Blk.moved {g:Nat} {t:TypeId} {cs:Array Value} (h:Blk w g t cs) (m:Moved F F' w w') (hg:¬F g):Blk w' g t cs:=(m.block g h.lt hg).trans h
theorem Uc {w0:World} (h:Below w0.heap.size w0 w) (m:Moved F F' w w') (hF:∀ b,F b→w0.heap.size≤b):Below w0.heap.size w0 w' :=
 h.trans ⟨m.os,m.tape,m.output,m.size,fun b hb=>m.block b (by have:=h.size;omega) (fun hf=>by have:=hF b hf;omega)⟩
end
def XE (F:Nat→Prop) (N:Nat) (w w':World):Prop:=w'.os=w.os∧w'.tape=w.tape∧w'.output=w.output∧w.heap.size≤w'.heap.size∧∀ b,b<N→¬F b→w'.heap[b]?=w.heap[b]?
theorem Zb (F:Nat→Prop) (N:Nat):Yx (XE F N):=⟨fun _=>⟨rfl,rfl,rfl,Nat.le_refl _,fun _ _ _=>rfl⟩,fun _ _ _ h k=>⟨k.1.trans h.1,k.2.1.trans h.2.1,k.2.2.1.trans h.2.2.1,Nat.le_trans h.2.2.2.1 k.2.2.2.1,fun b h1 h2=>(k.2.2.2.2 b h1 h2).trans (h.2.2.2.2 b h1 h2)⟩⟩
theorem Zi {F:Nat→Prop} {N:Nat} {w w':World} (h:XE F N w.drew w'):∀ b o,b<N→¬F b→w'.cell? ⟨b,o,none⟩=w.cell? ⟨b,o,none⟩:=fun b o hb hne=>by
 have:=h.2.2.2.2 b hb hne
 simp only [World.cell?,this]
 rfl
theorem Zj {F:Nat→Prop} {N B:Nat} {w w':World} (h:Below B w w') (hN:N≤B):XE F N w w':=⟨h.os,h.tape,h.output,h.size,fun b hb _=>h.block b (by omega)⟩
theorem jl {F F' F'':Nat→Prop} {N:Nat} {w w':World} (h:Moved F' F'' w w') (hN:N≤w.heap.size) (hf:∀ b,b<N→F' b→F b):XE F N w w':=⟨h.os,h.tape,h.output,h.size,fun b hb hn=>h.block b (by omega) (fun e=>hn (hf b hb e))⟩
theorem zB6 {F:Nat→Prop} {N:Nat} {w w':World} {row:Option Nat} (h:w.grownBy w' row) (hN:N≤w.heap.size) (hr:∀ b,row=some b→F b):XE F N w w':=⟨h.os,h.tape,h.output,h.size,fun b hb hn=>h.block b (by omega) (fun e=>hn (hr b e.symm))⟩
def Kh (E:Nat→Prop) (w:World) (cs:List Value) (qs:List Qn):Prop :=
 cs.length=qs.length*3∧∀ (i:Nat) (q:Qn),qs[i]?=some q→cs[i*3]?=some (.int .u64 (q.lab:Int))∧cs[i*3+2]?=some (.int .u64 (q.ans:Int))∧∃ s,cs[i*3+1]?=some s∧KRd E w s q.el
theorem Vh {E:Nat→Prop} {w w':World} {cs:List Value} {qs:List Qn} (h:Kh E w cs qs) (hs:w.heap.size≤w'.heap.size) (hw:∀ b,E b→b<w.heap.size→w'.heap[b]?=w.heap[b]?):Kh E w' cs qs :=
 ⟨h.1,fun i q hq=>by
  obtain ⟨h1,h2,s,h3,h4⟩:=h.2 i q hq
  exact ⟨h1,h2,s,h3,VN h4 hs hw⟩⟩
theorem ki {E E':Nat→Prop} {w:World} {cs:List Value} {qs:List Qn} (h:Kh E w cs qs) (hE:∀ b,E b→E' b):Kh E' w cs qs :=
 ⟨h.1,fun i q hq=>by
  obtain ⟨h1,h2,s,h3,h4⟩:=h.2 i q hq
  exact ⟨h1,h2,s,h3,jB h4 hE⟩⟩
theorem zB7 (E:Nat→Prop) (w:World):Kh E w [] []:=⟨rfl,fun i q h=>by simp at h⟩
theorem zB2 {E:Nat→Prop} {w:World} {cs:List Value} {qs:List Qn} {s:Value} {q:Qn} (h:Kh E w cs qs) (hs:KRd E w s q.el):Kh E w (cs++[.int .u64 (q.lab:Int),s, .int .u64 (q.ans:Int)]) (qs++[q]):=by
 refine ⟨by simp [h.1];omega,fun i x hx=>?_⟩
 by_cases hi:i<qs.length
 ·rw [List.getElem?_append_left hi] at hx
  obtain ⟨h1,h2,t,h3,h4⟩:=h.2 i x hx
  have hl:=h.1
  exact ⟨by rw [List.getElem?_append_left (by omega)];exact h1,by rw [List.getElem?_append_left (by omega)];exact h2,t,by rw [List.getElem?_append_left (by omega)];exact h3,h4⟩
 ·rw [List.getElem?_append_right (by omega)] at hx
  have hi2:i-qs.length=0:=by
   rcases Nat.eq_zero_or_pos (i-qs.length) with e | e
   ·exact e
   ·rw [List.getElem?_eq_none (by simp;omega)] at hx;cases hx
  rw [hi2] at hx
  injection hx with hx
  subst hx
  have hl:=h.1
  have e1:i=qs.length:=by omega
  subst e1
  refine ⟨?_,?_,s,?_,hs⟩
  ·rw [List.getElem?_append_right (by omega),hl,Nat.sub_self];rfl
  ·rw [List.getElem?_append_right (by omega),hl,show qs.length*3+2-qs.length*3=2 by omega];rfl
  ·rw [List.getElem?_append_right (by omega),hl,show qs.length*3+1-qs.length*3=1 by omega];rfl
end Go.Proofs.YtdhhdplholkmdaaGreat
namespace Go.Proofs.YtdhhdplholkmdaaGreat
open Go.RowKit Go.Maps
structure OrcIn (w:World) (g:Nat) (O:Orc) (F:Nat→Prop) (v:Value) (cs:List Value) (km sm pm:Nat) (E:Nat→Prop):Prop where
 ok:OrcOk O
 blk:Blk w g 175 #[.bool O.ideal, .int .u64 (O.st:Int), .int .i64 (O.dr:Int),v, .map (some km), .map (some sm), .map (some pm)]
 own:w.ownsRow 0 177 3 v O.qs.length cs
 rows:Kh E w cs O.qs
 map:w.ownsMap Tryz.prog 9 (plainElem Tryz.prog 3) km O.qs.length (VP O.qs)
 el:∀ b,E b→b<w.heap.size∧b≠g∧b≠km∧v.ownBlock≠some b
 kmg:km≠g
 vkm:v.ownBlock≠some km
 vg:v.ownBlock≠some g
 fg:F g
 fv:∀ b,v.ownBlock=some b→F b
 fkm:F km
 fE:∀ b,E b→F b
 lt:∀ b,F b→b<w.heap.size
def OrcAt (w:World) (g:Nat) (O:Orc) (F:Nat→Prop):Prop:=∃ v cs km sm pm E,OrcIn w g O F v cs km sm pm E
section
variable {w w':World} {g:Nat} {O:Orc} {F:Nat→Prop}
theorem OrcIn.keep {v:Value} {cs:List Value} {km sm pm:Nat} {E:Nat→Prop} (h:OrcIn w g O F v cs km sm pm E) (hs:w.heap.size≤w'.heap.size) (hw:∀ b,F b→w'.heap[b]?=w.heap[b]?):OrcIn w' g O F v cs km sm pm E where
 ok:=h.ok
 blk:=(hw g h.fg).trans h.blk
 own:=ZT h.own fun b hb=>hw b (h.fv b hb)
 rows:=Vh h.rows hs fun b hb _=>hw b (h.fE b hb)
 map:=by
  obtain ⟨es,clock,h1,h2⟩:=h.map
  exact ⟨es,clock,(hw km h.fkm).trans h1,h2⟩
 el:=fun b hb=>⟨Nat.lt_of_lt_of_le (h.el b hb).1 hs,(h.el b hb).2⟩
 kmg:=h.kmg
 vkm:=h.vkm
 vg:=h.vg
 fg:=h.fg
 fv:=h.fv
 fkm:=h.fkm
 fE:=h.fE
 lt:=fun b hb=>Nat.lt_of_lt_of_le (h.lt b hb) hs
theorem OrcAt.keep (h:OrcAt w g O F) (hs:w.heap.size≤w'.heap.size) (hw:∀ b,F b→w'.heap[b]?=w.heap[b]?):OrcAt w' g O F:=by
 obtain ⟨v,cs,km,sm,pm,E,h⟩:=h
 exact ⟨v,cs,km,sm,pm,E,h.keep hs hw⟩
theorem OrcAt.lt (h:OrcAt w g O F):∀ b,F b→b<w.heap.size:=by
 obtain ⟨v,cs,km,sm,pm,E,h⟩:=h
 exact h.lt
theorem OrcAt.ok (h:OrcAt w g O F):OrcOk O:=by
 obtain ⟨v,cs,km,sm,pm,E,h⟩:=h
 exact h.ok
theorem OrcAt.fg (h:OrcAt w g O F):F g:=by
 obtain ⟨v,cs,km,sm,pm,E,h⟩:=h
 exact h.fg
theorem OrcIn.below {v:Value} {cs:List Value} {km sm pm:Nat} {E:Nat→Prop} (h:OrcIn w g O F v cs km sm pm E) (hb:Below w.heap.size w w'):OrcIn w' g O F v cs km sm pm E:=h.keep hb.size fun b hf=>hb.block b (h.lt b hf)
theorem OrcAt.below (h:OrcAt w g O F) (hb:Below w.heap.size w w'):OrcAt w' g O F:=h.keep hb.size fun b hf=>hb.block b (h.lt b hf)
theorem OrcIn.drew {v:Value} {cs:List Value} {km sm pm:Nat} {E:Nat→Prop} (h:OrcIn w g O F v cs km sm pm E):OrcIn w.drew g O F v cs km sm pm E:=h.keep (Nat.le_refl _) fun _ _=>rfl
theorem OrcAt.drew (h:OrcAt w g O F):OrcAt w.drew g O F:=h.keep (Nat.le_refl _) fun _ _=>rfl
theorem OrcAt.moved {F1 F2:Nat→Prop} (h:OrcAt w g O F) (m:Moved F1 F2 w w') (hd:∀ b,F b→¬F1 b):OrcAt w' g O F:=h.keep m.size fun b hf=>m.block b (h.lt b hf) (hd b hf)
end
end Go.Proofs.YtdhhdplholkmdaaGreat
namespace Go.Proofs.YtdhhdplholkmdaaGreat
open Go.RowKit Go.Maps
theorem zB8 {l:List Nat} {j:Nat} (hj:j<l.length) (h:Xl (l.take j)=true) (hx:l.getD j 0<YR):Xl (l.take (j+1))=true:=by
 unfold Xl at *
 rw [xe l j hj,List.all_append,h]
 simp only [List.all_cons,List.all_nil,Bool.and_true,Bool.true_and]
 exact decide_eq_true hx
theorem zDy {l:List Nat} {j:Nat} (hj:j<l.length) (hx:YR≤l.getD j 0):Xl l=false:=by
 unfold Xl
 rw [List.all_eq_false]
 refine ⟨l.getD j 0,?_,by rw [decide_eq_true_iff];omega⟩
 rw [List.getD_eq_getElem?_getD,List.getElem?_eq_getElem hj]
 exact List.getElem_mem _
set_option maxRecDepth 100000 in
set_option maxHeartbeats 400000 in
theorem zE (A:Option Addr) (n c:Nat) (l:List Nat) (w:World) (hl:RWd w [.slice A n c] l) :
  Calls Tryz.prog 192 #[.slice A n c] w fun e w'=>e= .returned (.bool (Xl l))∧w=w':=by
 obtain ⟨rfl,h1,h2,-,hrd⟩:=YY hl
 have gm:=Vf h1 h2
 clear hl h1 h2
 go_enter Tryz.func192,Tryz.ntmps192
 go_wp2_with fail
 go_loop [7] (fun i=>∃ j:Nat,j≤l.length∧i= .int .i64 (j:Int)∧Hid (Xl (l.take j)=true)) (fun i=>l.length-(intOf i).toNat)
 case atStart=>exact ⟨0,Nat.zero_le _,rfl,rfl⟩
 case round =>
  obtain ⟨j,hj,rfl,HB⟩:=hrel
  by_cases hlt:j<l.length
  ·obtain ⟨b,q,rfl,hbl,hc⟩:=Vl hrd hlt
   have HL:=Lib.hid hlt
   have g1:(0:Int)≤(j:Int):=by omega
   have g2:(j:Int)<(l.length:Int):=by omega
   have HN:=Lib.hid (fun h=>zDy (l:=l) hlt h)
   have HY:=Lib.hid (fun h=>zB8 (l:=l) hlt HB.out h)
   revert hc HN HY
   generalize l.getD j 0=y
   intro hc HN HY
   clear hrd
   by_cases z:YR≤y
   ·have HZ:=Lib.hid (HN.out z)
    unfold YR at z
    have d1:decide ((18446744069414584321:Int)≤(y:Int))=true:=decide_eq_true (by omega)
    clear HN HY
    go_wp2
    go_ret
    exact ⟨by rw [HZ.out];rfl,rfl⟩
   ·have HZ:=Lib.hid (HY.out (by omega))
    unfold YR at z
    have d1:decide ((18446744069414584321:Int)≤(y:Int))=false:=decide_eq_false (by omega)
    clear HN HY
    go_wp2
    go_round
    case rel=>exact ⟨j+1,by omega,by go_num,HZ.out⟩
    case measure=>simp [intOf];omega
  ·have e:j=l.length:=by omega
   have HA:=Lib.hid (show Xl l=true by have:=HB.out;rwa [e,List.take_length] at this)
   clear hrd
   go_wp2
   go_ret
   exact ⟨by rw [HA.out];rfl,rfl⟩
set_option maxRecDepth 100000 in
set_option maxHeartbeats 400000 in
theorem GU (A:Option Addr) (n c:Nat) (l:List Nat) (w:World) (hl:RWd w [.slice A n c] l) (hlen:l.length≤10000000) :
  Calls Tryz.prog 185 #[.slice A n c] w fun e w'=>∃ v,e= .returned v∧w'.ownsRow w.heap.size 22 1 v n (U64 l)∧Below w.heap.size w w':=by
 obtain ⟨rfl,h1,h2,hlt,hrd⟩:=YY hl
 clear hl
 have h0:w.ownsRow w.heap.size 22 1 (.slice none 0 0) 0 []:=⟨rfl, .inl ⟨rfl,rfl⟩⟩
 go_enter Tryz.func185,Tryz.ntmps185
 go_wp2_with (at_builtin;refine ZW rfl _ _ rfl Gu rfl h0 rfl hrd (YW _) (by omega) (Nat.le_refl _) ?_)
 intro v' w1 hown hgrow hblk
 go_wp2
 go_ret
 exact ⟨_,rfl,hown,YD h0 hgrow (Nat.le_refl _)⟩
set_option maxRecDepth 100000 in
set_option maxHeartbeats 400000 in
theorem Uu (base:Nat) (v:Value) (m x:Nat) (xs:List Value) (w:World) (ho:w.ownsRow base 5 1 v m xs) (hx:x<18446744073709551616) (hk:m≤100000000) (hb:base≤w.heap.size) :
  Calls Tryz.prog 248 #[v, .int .u64 x] w fun e w'=>∃ v',e= .returned v'∧w'.ownsRow base 5 1 v' (m+8) (xs++U8 (Up x 8))∧w.grownBy w' v.ownBlock∧(∀ g,v'.ownBlock=some g→v.ownBlock=some g∨w.heap.size≤g):=by
 go_enter Tryz.func248,Tryz.ntmps248
 go_wp2_with fail
 go_loopw [0,1,5] (fun s y i wr=>∃ j z:Nat,j≤8∧i= .int .i64 (j:Int)∧y= .int .u64 (z:Int)∧Hid (z=x / 256^j)∧z<18446744073709551616∧wr.ownsRow base 5 1 s (m+j) (xs++U8 (Up x j))∧w.grownBy wr v.ownBlock∧(∀ g,s.ownBlock=some g→v.ownBlock=some g∨w.heap.size≤g))
  (fun _ _ i _=>8-(intOf i).toNat)
 case atStart=>exact ⟨0,x,Nat.zero_le _,rfl,rfl,by simp [Hid],hx,by simpa [Up,U8] using ho,ZO _ _,fun g h=>.inl h⟩
 case round =>
  obtain ⟨j,z,hj,rfl,rfl,HZ,hz,hown,hgr,hbl⟩:=hrel
  have HB:=Lib.hid hbl
  clear hbl
  by_cases hlt:j<8
  ·have hs:=hgr.size
   go_wp2_with (at_builtin;refine ZW rfl _ _ rfl el_u8 rfl (hown.alloc _) rfl (G4 _ (.int .u8 ((z:Int)%256)) _) ?_ ?_ ?_ ?_)
   ·intro u hu;simp at hu;subst hu;rfl
   ·omega
   ·simp;omega
   intro v' w1 hown' hgrow hat
   have hs2:=hgrow.size
   simp only [World.size_alloc] at hs2 hat
   have R:=yS (xh hgr _) HB.out hgrow (hat.imp id fun h=>⟨_,h,by simp⟩)
   have HR:=Lib.hid R
   clear hown hgr hgrow hat R HB
   go_wp2
   go_roundw
   case rel =>
    refine ⟨j+1,z / 256,by omega,by go_num,by go_num,?_,by omega,?_,HR.out.1,HR.out.2⟩
    ·show z / 256=x / 256^(j+1)
     rw [HZ.out,Nat.div_div_eq_div_mul,Nat.pow_succ]
    ·rw [yx,←HZ.out,Ky,←List.append_assoc]
     rw [←List.append_assoc] at hown'
     exact hown'
   case measure=>simp [intOf];omega
  ·go_wp2
   go_ret
   have e:j=8:=by omega
   subst e
   exact ⟨_,rfl,hown,hgr,HB.out⟩
theorem yu (l:List Nat) (j:Nat) (h:j<l.length):X9 (l.take (j+1))=X9 (l.take j)++Up (l.getD j 0) 8:=by
 rw [xe l j h,Ub]
 simp [X9]
set_option maxRecDepth 100000 in
set_option maxHeartbeats 1000000 in
theorem zE5 (A B:Option Addr) (n c m d:Nat) (l k:List Nat) (w:World) (hl:RWd w [.slice A n c] l) (hk:RWd w [.slice B m d] k) (h1:l.length≤1000000) (h2:k.length≤1000000) :
  Calls Tryz.prog 193 #[.slice A n c, .slice B m d] w fun e w'=>e= .returned (.string (S (X9 (k++l))))∧Below w.heap.size w w':=by
 obtain ⟨rfl,h3,h4,hlt,hrd⟩:=YY hl
 obtain ⟨rfl,h5,h6,hlt2,hrd2⟩:=YY hk
 clear hl hk h3 h4 h5 h6
 have HL1:=Lib.hid hlt
 have HL2:=Lib.hid hlt2
 clear hlt hlt2
 have e1:IntKind.i64.wrap ((k.length:Int)+(l.length:Int))=((k.length+l.length:Nat):Int):=by rw [IntKind.wrap_i64];omega
 have e2:IntKind.i64.wrap (8*((k.length+l.length:Nat):Int))=((8*(k.length+l.length):Nat):Int):=by rw [IntKind.wrap_i64];omega
 obtain ⟨t,ht⟩:∃ t,t=8*(k.length+l.length):=⟨_,rfl⟩
 obtain ⟨s,hs⟩:∃ s,s=k.length+l.length:=⟨_,rfl⟩
 rw [←hs] at e1 e2 ht
 rw [←ht] at e2
 have g0:(t:Int)≤16000000:=by omega
 have HT:=Lib.hid ht
 have HS:=Lib.hid hs
 clear ht hs
 have hmk:∀ u:World,(Instr.makeSlice 308 (.int .i64 0) (.int .i64 (t:Int))).run Tryz.prog u =
   .ok (.slice (some ⟨u.heap.size,0,none⟩) 0 t) (u.alloc (.cells (madeCells #[.int .u8 0] t) 5)):=fun u=>by
  obtain ⟨i0,hi,hz0,hz1,hz2⟩:=info_parts zAi
  have h:=run_make (P:=Tryz.prog) u 308 5 i0 (.int .u8 0) Tryz.underlying308 hi hz0 .i64 .i64 0 (t:Int) (by omega) (by omega) (by rw [hz2];omega) (by omega)
  rw [Int.toNat_natCast] at h
  simpa [hz1,Value.cells] using h
 have hown0:=World.ownsRow_made (base:=w.heap.size) (e:=5) (size:=1) w (madeCells #[.int .u8 0] t) t (Nat.le_refl _) (by simp [maxLen];omega) (by rw [size_madeCells,Nat.mul_one])
 have hb0:=(Below.refl w.heap.size w).alloc (Nat.le_refl _) (.cells (madeCells #[.int .u8 0] t) 5)
 go_enter Tryz.func193,Tryz.ntmps193
 go_wp2_with fail
 generalize w.alloc _=w0 at hown0 hb0 ⊢
 clear hmk
 go_loopw [5,19] (fun s i wr=>∃ j:Nat,j≤k.length∧i= .int .i64 (j:Int)∧wr.ownsRow w.heap.size 5 1 s (8*j) (U8 (X9 (k.take j)))∧Below w.heap.size w wr) (fun _ i _=>k.length-(intOf i).toNat)
 case atStart=>exact ⟨0,Nat.zero_le _,rfl,by simpa [X9,U8] using hown0,hb0⟩
 case round =>
  clear hown0 hb0
  obtain ⟨j,hj,rfl,hown,hb⟩:=hrel
  by_cases hlt:j<k.length
  ·obtain ⟨b,q,rfl,hbl,hc⟩:=Vl (hrd2.below hb) hlt
   have g1:(0:Int)≤(j:Int):=by omega
   have g2:(j:Int)<(k.length:Int):=by omega
   have HY:=Lib.hid (Ka HL2.out hlt)
   have HE:=Lib.hid (yu k j hlt)
   have HL:=Lib.hid hlt
   clear hlt
   revert hc HY HE
   generalize k.getD j 0=y
   intro hc HY HE
   go_wp2_with fail
   refine (Uu w.heap.size _ (8*j) y _ _ hown HY.out (by have:=HL.out;omega) hb.size).mono ?_
   rintro e w1 ⟨v',rfl,hown',hgr,hat⟩
   have hb1:=hb.trans (Ya hgr w.heap.size hb.size (fun g hg=>(zCv hown g hg).1))
   clear hgr hat hown hb hc
   rw [←Ky,←HE.out] at hown'
   go_wp2
   go_roundw
   case rel=>exact ⟨j+1,by have:=HL.out;omega,by go_num,by rw [show 8*(j+1)=8*j+8 by omega];exact hown',hb1⟩
   case measure=>have:=HL.out;simp [intOf];omega
  ·have e:j=k.length:=by omega
   subst e
   rw [List.take_length] at hown
   clear hlt hj
   go_wp2_with fail
   go_loopw [5,29] (fun s i wq=>∃ j:Nat,j≤l.length∧i= .int .i64 (j:Int)∧wq.ownsRow w.heap.size 5 1 s (8*(k.length+j)) (U8 (X9 (k++l.take j)))∧Below w.heap.size w wq) (fun _ i _=>l.length-(intOf i).toNat)
   case atStart=>exact ⟨0,Nat.zero_le _,rfl,by simpa using hown,hb⟩
   case round =>
    clear hown hb
    obtain ⟨j,hj,rfl,hown,hb⟩:=hrel
    by_cases hlt:j<l.length
    ·obtain ⟨b,q,rfl,hbl,hc⟩:=Vl (hrd.below hb) hlt
     have g1:(0:Int)≤(j:Int):=by omega
     have g2:(j:Int)<(l.length:Int):=by omega
     have HY:=Lib.hid (Ka HL1.out hlt)
     have HE:=Lib.hid (show X9 (k++l.take (j+1))=X9 (k++l.take j)++Up (l.getD j 0) 8 by rw [Ub,Ub,yu l j hlt,List.append_assoc])
     have HL:=Lib.hid hlt
     clear hlt
     revert hc HY HE
     generalize l.getD j 0=y
     intro hc HY HE
     go_wp2_with fail
     refine (Uu w.heap.size _ (8*(k.length+j)) y _ _ hown HY.out (by have:=HL.out;omega) hb.size).mono ?_
     rintro e w1 ⟨v',rfl,hown',hgr,hat⟩
     have hb1:=hb.trans (Ya hgr w.heap.size hb.size (fun g hg=>(zCv hown g hg).1))
     clear hgr hat hown hb hc
     rw [←Ky,←HE.out] at hown'
     go_wp2
     go_roundw
     case rel=>exact ⟨j+1,by have:=HL.out;omega,by go_num,by rw [show 8*(k.length+(j+1))=8*(k.length+j)+8 by omega];exact hown',hb1⟩
     case measure=>have:=HL.out;simp [intOf];omega
    ·have e:j=l.length:=by omega
     subst e
     rw [List.take_length] at hown
     clear hlt hj
     obtain ⟨A',c',rfl,-,-,hrd3,-⟩:=Yd hown
     have hcv:=jM (P:=Tryz.prog) (w:=_) (dst:=9) (c:=c') Tryz.underlying308 Tryz.underlying5 Tryz.underlying9 hrd3
     go_wp2
     go_ret
     exact ⟨rfl,hb⟩
end Go.Proofs.YtdhhdplholkmdaaGreat
