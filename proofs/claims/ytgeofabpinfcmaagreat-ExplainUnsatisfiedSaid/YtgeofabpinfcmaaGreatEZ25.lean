/- A part of the proof. No condition. -/
import Derived.Test.YtgeofabpinfcmaaGreatProg
import Derived.Test.YtgeofabpinfcmaaGreatEZ21
import Derived.Test.YtgeofabpinfcmaaGreatEZ23
import Derived.Test.YtgeofabpinfcmaaGreatEZ22
import Derived.Test.YtgeofabpinfcmaaGreatEZ24

set_option maxRecDepth 100000
set_option maxHeartbeats 8000000
set_option linter.unusedVariables false
set_option linter.unusedSimpArgs false
namespace Go.Proofs.YtgeofabpinfcmaaGreat
open Go.RowKit
theorem jF {n:Nat} (h:2 <= n):Cl n=2^((n-1).log2+1) /\ n <= Cl n /\ ∀ j,j<(n-1).log2+1 -> 2^j<n:=by
 have h0:n-1≠0:=by omega
 have h1:=Nat.log2_self_le h0;have h2:=@Nat.lt_log2_self (n-1);refine ⟨rfl,by unfold Cl;omega,fun j hj=>?_⟩
 have:=Nat.pow_le_pow_right (show 0<2 by decide) (show j <= (n-1).log2 by omega)
 omega
theorem PH {L:Ja} (h:Db L) {n:Nat} (h2:2 <= n) (hn:n <= L.n):Vg L.p (Cl n) /\ Cl n <= L.n:=by
 obtain ⟨e,-,hj⟩:=jF h2;obtain ⟨t,ht⟩:=h.n;have re:=h.n2;have hle:(n-1).log2+1 <= t:=by
  rcases Nat.lt_or_ge t ((n-1).log2+1) with q | q
  ·have:=hj t q;omega
  ·exact q
 have hle2:Cl n <= L.n:=by rw [e,ht];exact Nat.pow_le_pow_right (by decide) hle
 refine ⟨⟨by rw [e];exact Nat.one_le_two_pow,by omega,⟨_,e⟩,?_⟩,hle2⟩
 have hd:Cl n∣L.n:=by rw [e,ht];exact Nat.pow_dvd_pow 2 hle
 exact Nat.mod_eq_zero_of_dvd (Nat.dvd_trans hd (Nat.dvd_of_mod_eq_zero h.nd))
def xx (p K al:Nat) (F:Nat -> Nat) (R:Nat -> Nat -> Nat):Nat -> Nat -> Nat
 | 0=>F
 | i+1=>Kk p (yg p al (i+1)) (xx p K al F R i) (R i) K
def Bx (p len:Nat) (F:Nat -> Nat) (D:Nat -> Nat -> Nat):Nat -> Nat -> Nat
 | 0=>F
 | i+1=>Kk p 1 (Bx p len F D i) (D i) len
def Vu (p K len be:Nat) (F:Nat -> Nat) (D Z:Nat -> Nat -> Nat):Nat -> Nat -> Nat
 | 0=>F
 | j+1=>Kk p (oc p (yg p be (j+1))) (Kk p (yg p be (j+1)) (Vu p K len be F D Z j) (D j) len) (Z j) K
theorem NG {p s t:Nat} (hp:0<p) {F G:Nat -> Nat} (h:∀ k,F k<p) (k:Nat):Kk p s F G t k<p:=by
 unfold Kk He;split
 ·exact Nat.mod_lt _ hp
 ·exact h k
theorem YL {p K al:Nat} (hp:0<p) {F:Nat -> Nat} {R:Nat -> Nat -> Nat} (h:∀ k,F k<p):∀ i k,xx p K al F R i k<p
 | 0=>h
 | i+1=>NG hp (YL hp h i)
theorem aM {p len:Nat} (hp:0<p) {F:Nat -> Nat} {D:Nat -> Nat -> Nat} (h:∀ k,F k<p):∀ i k,Bx p len F D i k<p
 | 0=>h
 | i+1=>NG hp (aM hp h i)
theorem aI {p K len be:Nat} (hp:0<p) {F:Nat -> Nat} {D Z:Nat -> Nat -> Nat} (h:∀ k,F k<p):∀ j k,Vu p K len be F D Z j k<p
 | 0=>h
 | j+1=>NG hp (NG hp (aI hp h j))
def Wn (g1 g2 g3:Nat) (w w':World):Prop:=Below 0 w w' /\ ∀ b,b<w.heap.size -> b≠g1 -> b≠g2 -> b≠g3 -> w'.heap[b]?=w.heap[b]?
theorem kP (g1 g2 g3:Nat) (w:World):Wn g1 g2 g3 w w:=⟨Below.refl _ _,fun _ _ _ _ _=>rfl⟩
theorem Ks {g1 g2 g3:Nat} {a b c:World} (x:Wn g1 g2 g3 a b) (y:Wn g1 g2 g3 b c):Wn g1 g2 g3 a c :=
 ⟨x.1.trans y.1,fun k h h1 h2 h3=>(y.2 k (Nat.lt_of_lt_of_le h x.1.size) h1 h2 h3).trans (x.2 k h h1 h2 h3)⟩
theorem YA {g1 g2 g3:Nat} {a b:World} (x:Below a.heap.size a b):Wn g1 g2 g3 a b:=⟨x.mono (Nat.zero_le _),fun k h _ _ _=>x.block k h⟩
theorem Js {g1 g2 g3:Nat} {a b:World} {u:Nat} (x:a.grownBy b (some u)) (hu:u=g1 \/ u=g2 \/ u=g3):Wn g1 g2 g3 a b :=
 ⟨TE x 0 (Nat.zero_le _) (fun _ _=>Nat.zero_le _),fun k h h1 h2 h3=>x.block k h (fun e=>by
  have e1:=Option.some.inj e;rcases hu with e2 | e2 | e2
  ·exact h1 (e1.trans e2)
  ·exact h2 (e1.trans e2)
  ·exact h3 (e1.trans e2))⟩
theorem fF {g1 g2 g3 b:Nat} {w w':World} {t:TypeId} {cs:Array Value} (k:Blk w b t cs) (x:Wn g1 g2 g3 w w') (h1:b≠g1) (h2:b≠g2) (h3:b≠g3):Blk w' b t cs:=by
 have hl:=k.lt;unfold Blk at *;rw [x.2 b hl h1 h2 h3];exact k
theorem XV {g1 g2 g3 B:Nat} {a b c:World} (Wq:Below B a b) (x:Wn g1 g2 g3 b c) (hB:B <= b.heap.size) (h1:B <= g1) (h2:B <= g2) (h3:B <= g3):Below B a c :=
 Wq.trans ⟨x.1.os,x.1.tape,x.1.output,x.1.size,fun k hk=>x.2 k (by omega) (by omega) (by omega) (by omega)⟩
theorem MD {g1 g2 g3 g base n c:Nat} {w w':World} {e:TypeId} {q:Nat} {xs:List Value} (h:w.ownsRow base e 1 (.slice (some ⟨g,q,none⟩) n c) n xs) (x:Wn g1 g2 g3 w w') (h1:g≠g1) (h2:g≠g2) (h3:g≠g3):w'.ownsRow base e 1 (.slice (some ⟨g,q,none⟩) n c) n xs:=by
 obtain ⟨k1,k2⟩:=h;refine ⟨k1,?_⟩;rcases k2 with k2 | ⟨g',cap,cur,hv,dj,hh,r⟩
 ·exact Or.inl k2
 ·have he:g=g':=by
   injection hv with e1
   injection e1 with e1
   injection e1
  subst he;exact Or.inr ⟨g,cap,cur,hv,dj,by rw [x.2 g (Array.getElem?_eq_some_iff.1 hh).1 h1 h2 h3];exact hh,r⟩
def rG (N:Nat) (w w':World):Prop:=w.heap.size <= w'.heap.size /\ ∀ b,N <= b -> b<w.heap.size -> w'.heap[b]?=w.heap[b]?
theorem Xv {N:Nat} {a b:World} (x:Below a.heap.size a b):rG N a b:=⟨x.size,fun k _ h=>x.block k h⟩
theorem OU {g1 g2 g3 N:Nat} {a b:World} (x:Wn g1 g2 g3 a b) (h1:g1<N) (h2:g2<N) (h3:g3<N):rG N a b:=⟨x.1.size,fun k hk h=>x.2 k h (by omega) (by omega) (by omega)⟩
theorem SE {g N:Nat} {a b:World} (x:a.grownBy b (some g)) (h1:g<N):rG N a b:=⟨x.size,fun k hk h=>x.block k h (fun e=>by have:=Option.some.inj e;omega)⟩
def Vt (N K:Nat) (w:World) (CS:Array Value) (i:Nat) (F:Nat -> Nat -> Nat):Prop:=∀ k,k<i -> ∃ g,CS[k]?=some (.slice (some ⟨g,0,none⟩) K K) /\ N <= g /\ Blk w g 22 (Ha K (F k))
theorem xo {N K:Nat} {w w':World} {CS:Array Value} {i:Nat} {F:Nat -> Nat -> Nat} (h:Vt N K w CS i F) (x:rG N w w'):Vt N K w' CS i F:=fun k hk=>by
 obtain ⟨g,h1,h2,h3⟩:=h k hk;refine ⟨g,h1,h2,?_⟩;have hl:=h3.lt;unfold Blk at *;rw [x.2 g h2 hl];exact h3
theorem xO {N K:Nat} {w:World} {CS:Array Value} {i g:Nat} {F:Nat -> Nat -> Nat} (h:Vt N K w CS i F) (hi:i<CS.size) (hg:N <= g) (k:Blk w g 22 (Ha K (F i))):Vt N K w (CS.setIfInBounds i (.slice (some ⟨g,0,none⟩) K K)) (i+1) F:=fun j hj=>by
 by_cases e:i=j
 ·subst e
  exact ⟨g,by simp [hi],hg,k⟩
 ·obtain ⟨u,h1,h2⟩:=h j (by omega)
  exact ⟨u,by rw [Array.getElem?_setIfInBounds_ne e];exact h1,h2⟩
theorem uO (w:World) (t1 t2 t3 t4:TypeId) (ed me Sf Zj:Array Value) :
  Blk ((((w.alloc (.cells ed t1)).alloc (.cells me t2)).alloc (.cells Sf t3)).alloc (.cells Zj t4)) w.heap.size t1 ed /\ Blk ((((w.alloc (.cells ed t1)).alloc (.cells me t2)).alloc (.cells Sf t3)).alloc (.cells Zj t4)) (w.heap.size+1) t2 me /\ Blk ((((w.alloc (.cells ed t1)).alloc (.cells me t2)).alloc (.cells Sf t3)).alloc (.cells Zj t4)) (w.heap.size+1+1) t3 Sf /\ Blk ((((w.alloc (.cells ed t1)).alloc (.cells me t2)).alloc (.cells Sf t3)).alloc (.cells Zj t4)) (w.heap.size+1+1+1) t4 Zj /\
   Below w.heap.size w ((((w.alloc (.cells ed t1)).alloc (.cells me t2)).alloc (.cells Sf t3)).alloc (.cells Zj t4)) /\ ((((w.alloc (.cells ed t1)).alloc (.cells me t2)).alloc (.cells Sf t3)).alloc (.cells Zj t4)).heap.size=w.heap.size+4:=by
 obtain ⟨h1,h2,h3,h4,h5⟩:=Oq w t1 t2 t3 ed me Sf;refine ⟨h1.alloc _,h2.alloc _,h3.alloc _,?_,h4.alloc (by omega) _,by simp⟩
 have:=Blk.new (((w.alloc (.cells ed t1)).alloc (.cells me t2)).alloc (.cells Sf t3)) t4 Zj;rw [h5] at this;exact this
theorem tY {w:World} {base g n:Nat} {F:Nat -> Nat} (k:Blk w g 22 (Ha n F)) (hb:base <= g) (hn:n <= maxLen):w.ownsRow base 22 1 (.slice (some ⟨g,0,none⟩) n n) n (Fa ((List.range n).map F)):=by
 have hl:(Fa ((List.range n).map F)).length=n:=by simp [Fa]
 refine ⟨by rw [hl];omega, .inr ⟨g,n,Ha n F,rfl,hb,k,zR,hn,by simp [Ha],?_⟩⟩
 rw [Ms,List.take_of_length_le (by rw [hl];omega)]
theorem Pq {L:Ja} {r:List (List Nat)} {co li qu sa:List Nat} (h:Ze L r co li qu sa=true) :
  r.length=L.a+L.b+L.b+L.b /\ (∀ x∈r,x.length=L.queries /\ ∀ y∈x,y<L.p) /\ (co.length=L.k /\ ∀ y∈co,y<L.p) /\ (li.length=L.k+L.block-2 /\ ∀ y∈li,y<L.p) /\ (qu.length=L.block+2*L.queries-1 /\ ∀ y∈qu,y<L.p):=by
 unfold Ze td at h;simp only [Bool.and_eq_true,List.all_eq_true,decide_eq_true_eq] at h;exact ⟨h.1,h.2.1,h.2.2.1,h.2.2.2.1,h.2.2.2.2.1⟩
theorem tI (l:List Nat) (n:Nat) (h:l.length=n):(List.range n).map (fun k=>l.getD k 0)=l:=by
 subst h;refine Om (by simp) fun i hi=>?_
 simp at hi
 rw [Qf,if_pos hi]
end Go.Proofs.YtgeofabpinfcmaaGreat
namespace Go.Proofs.YtgeofabpinfcmaaGreat
def Bs (L:Ja) (m r:List (List Nat)) (i:Nat):Nat -> Nat:=oq L (m.getD i []) (r.getD i [])
def yl (L:Ja) (m r:List (List Nat)) (i:Nat):List Nat:=(List.range L.k).map (Bs L m r i)
def sy (L:Ja) (cs m r:List (List Nat)) (i:Nat):Nat -> Nat :=
 Qu L.p (Cl (L.k+L.block-1)) ((L.k+L.block-1-1).log2+1) ((List.range L.block).map (Nj L.p L.block L.block.log2 (cs.getD i []))) (yl L m r i)
def ou (L:Ja) (m r:List (List Nat)) (j:Nat):Nat -> Nat :=
 Qu L.p (Cl (2*L.k-1)) ((2*L.k-1-1).log2+1) (yl L m r (L.a+j)) (yl L m r (L.a+L.b+j))
def EA (L:Ja) (m r:List (List Nat)) (j:Nat):Nat -> Nat:=Bs L m r (L.a+L.b+L.b+j)
end Go.Proofs.YtgeofabpinfcmaaGreat
