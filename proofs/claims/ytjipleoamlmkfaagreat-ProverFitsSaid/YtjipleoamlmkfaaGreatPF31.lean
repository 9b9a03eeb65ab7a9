/- A part of the proof. No condition. -/
import Derived.Test.YtjipleoamlmkfaaGreatProg
import Derived.Test.YtjipleoamlmkfaaGreatPF23
import Derived.Test.YtjipleoamlmkfaaGreatPF17
import Derived.Test.YtjipleoamlmkfaaGreatPF30
import Derived.Test.YtjipleoamlmkfaaGreatPF22

set_option maxRecDepth 100000
set_option maxHeartbeats 8000000
set_option linter.unusedVariables false
set_option linter.unusedSimpArgs false
namespace Go.Proofs.YtjipleoamlmkfaaGreat
open Go.RowKit
theorem tD {n:Nat} (h:2 <= n):Th n=2^((n-1).log2+1) /\ n <= Th n /\ ∀ j,j<(n-1).log2+1 -> 2^j<n:=by
 have h0:n-1≠0:=by omega
 have h1:=Nat.log2_self_le h0;have h2:=@Nat.lt_log2_self (n-1);refine ⟨rfl,by unfold Th;omega,fun j hj=>?_⟩
 have:=Nat.pow_le_pow_right (show 0<2 by decide) (show j <= (n-1).log2 by omega)
 omega
theorem ZI {L:Va} (h:Vc L) {n:Nat} (h2:2 <= n) (hn:n <= L.n):Ss L.p (Th n) /\ Th n <= L.n:=by
 obtain ⟨e,-,hj⟩:=tD h2;obtain ⟨t,ht⟩:=h.n;have Od:=h.n2;have hle:(n-1).log2+1 <= t:=by
  rcases Nat.lt_or_ge t ((n-1).log2+1) with q | q
  ·have:=hj t q;omega
  ·exact q
 have VD:Th n <= L.n:=by rw [e,ht];exact Nat.pow_le_pow_right (by decide) hle
 refine ⟨⟨by rw [e];exact Nat.one_le_two_pow,by omega,⟨_,e⟩,?_⟩,VD⟩
 have hd:Th n∣L.n:=by rw [e,ht];exact Nat.pow_dvd_pow 2 hle
 exact Nat.mod_eq_zero_of_dvd (Nat.dvd_trans hd (Nat.dvd_of_mod_eq_zero h.nd))
def mW (p K al:Nat) (F:Nat -> Nat) (R:Nat -> Nat -> Nat):Nat -> Nat -> Nat
 | 0=>F
 | i+1=>Dk p (Pw p al (i+1)) (mW p K al F R i) (R i) K
def oW (p len:Nat) (F:Nat -> Nat) (D:Nat -> Nat -> Nat):Nat -> Nat -> Nat
 | 0=>F
 | i+1=>Dk p 1 (oW p len F D i) (D i) len
def GV (p K len be:Nat) (F:Nat -> Nat) (D Z:Nat -> Nat -> Nat):Nat -> Nat -> Nat
 | 0=>F
 | j+1=>Dk p (xg p (Pw p be (j+1))) (Dk p (Pw p be (j+1)) (GV p K len be F D Z j) (D j) len) (Z j) K
theorem qA {p s t:Nat} (hp:0<p) {F G:Nat -> Nat} (h:∀ k,F k<p) (k:Nat):Dk p s F G t k<p:=by
 unfold Dk uf;split
 ·exact Nat.mod_lt _ hp
 ·exact h k
theorem DJ {p K al:Nat} (hp:0<p) {F:Nat -> Nat} {R:Nat -> Nat -> Nat} (h:∀ k,F k<p):∀ i k,mW p K al F R i k<p
 | 0=>h
 | i+1=>qA hp (DJ hp h i)
theorem JJ {p len:Nat} (hp:0<p) {F:Nat -> Nat} {D:Nat -> Nat -> Nat} (h:∀ k,F k<p):∀ i k,oW p len F D i k<p
 | 0=>h
 | i+1=>qA hp (JJ hp h i)
theorem PJ {p K len be:Nat} (hp:0<p) {F:Nat -> Nat} {D Z:Nat -> Nat -> Nat} (h:∀ k,F k<p):∀ j k,GV p K len be F D Z j k<p
 | 0=>h
 | j+1=>qA hp (qA hp (PJ hp h j))
def wm (g1 g2 g3:Nat) (w w':World):Prop:=Below 0 w w' /\ ∀ b,b<w.heap.size -> b≠g1 -> b≠g2 -> b≠g3 -> w'.heap[b]?=w.heap[b]?
theorem EM (g1 g2 g3:Nat) (w:World):wm g1 g2 g3 w w:=⟨Below.refl _ _,fun _ _ _ _ _=>rfl⟩
theorem Ko {g1 g2 g3:Nat} {a b c:World} (x:wm g1 g2 g3 a b) (y:wm g1 g2 g3 b c):wm g1 g2 g3 a c :=
 ⟨x.1.trans y.1,fun k h h1 h2 h3=>(y.2 k (Nat.lt_of_lt_of_le h x.1.size) h1 h2 h3).trans (x.2 k h h1 h2 h3)⟩
theorem Ev {g1 g2 g3:Nat} {a b:World} (x:Below a.heap.size a b):wm g1 g2 g3 a b:=⟨x.mono (Nat.zero_le _),fun k h _ _ _=>x.block k h⟩
theorem Cq {g1 g2 g3:Nat} {a b:World} {u:Nat} (x:a.grownBy b (some u)) (hu:u=g1 \/ u=g2 \/ u=g3):wm g1 g2 g3 a b :=
 ⟨Fo x 0 (Nat.zero_le _) (fun _ _=>Nat.zero_le _),fun k h h1 h2 h3=>x.block k h (fun e=>by
  have e1:=Option.some.inj e;rcases hu with e2 | e2 | e2
  ·exact h1 (e1.trans e2)
  ·exact h2 (e1.trans e2)
  ·exact h3 (e1.trans e2))⟩
theorem Qy {g1 g2 g3 b:Nat} {w w':World} {t:TypeId} {cs:Array Value} (k:Blk w b t cs) (x:wm g1 g2 g3 w w') (h1:b≠g1) (h2:b≠g2) (h3:b≠g3):Blk w' b t cs:=by
 have hl:=k.lt;unfold Blk at *;rw [x.2 b hl h1 h2 h3];exact k
theorem LV {g1 g2 g3 B:Nat} {a b c:World} (QW:Below B a b) (x:wm g1 g2 g3 b c) (hB:B <= b.heap.size) (h1:B <= g1) (h2:B <= g2) (h3:B <= g3):Below B a c :=
 QW.trans ⟨x.1.os,x.1.tape,x.1.output,x.1.size,fun k hk=>x.2 k (by omega) (by omega) (by omega) (by omega)⟩
theorem xx {g1 g2 g3 g base n c:Nat} {w w':World} {e:TypeId} {q:Nat} {xs:List Value} (h:w.ownsRow base e 1 (.slice (some ⟨g,q,none⟩) n c) n xs) (x:wm g1 g2 g3 w w') (h1:g≠g1) (h2:g≠g2) (h3:g≠g3):w'.ownsRow base e 1 (.slice (some ⟨g,q,none⟩) n c) n xs:=by
 obtain ⟨k1,k2⟩:=h;refine ⟨k1,?_⟩;rcases k2 with k2 | ⟨g',cap,cur,hv,Kg,hh,r⟩
 ·exact Or.inl k2
 ·have he:g=g':=by
   injection hv with e1
   injection e1 with e1
   injection e1
  subst he;exact Or.inr ⟨g,cap,cur,hv,Kg,by rw [x.2 g (Array.getElem?_eq_some_iff.1 hh).1 h1 h2 h3];exact hh,r⟩
def Pz (N:Nat) (w w':World):Prop:=w.heap.size <= w'.heap.size /\ ∀ b,N <= b -> b<w.heap.size -> w'.heap[b]?=w.heap[b]?
theorem Ws {N:Nat} {a b:World} (x:Below a.heap.size a b):Pz N a b:=⟨x.size,fun k _ h=>x.block k h⟩
theorem vL {g1 g2 g3 N:Nat} {a b:World} (x:wm g1 g2 g3 a b) (h1:g1<N) (h2:g2<N) (h3:g3<N):Pz N a b:=⟨x.1.size,fun k hk h=>x.2 k h (by omega) (by omega) (by omega)⟩
theorem uA {g N:Nat} {a b:World} (x:a.grownBy b (some g)) (h1:g<N):Pz N a b:=⟨x.size,fun k hk h=>x.block k h (fun e=>by have:=Option.some.inj e;omega)⟩
def my (N K:Nat) (w:World) (CS:Array Value) (i:Nat) (F:Nat -> Nat -> Nat):Prop:=∀ k,k<i -> ∃ g,CS[k]?=some (.slice (some ⟨g,0,none⟩) K K) /\ N <= g /\ Blk w g 22 (Fa K (F k))
theorem Cl {N K:Nat} {w w':World} {CS:Array Value} {i:Nat} {F:Nat -> Nat -> Nat} (h:my N K w CS i F) (x:Pz N w w'):my N K w' CS i F:=fun k hk=>by
 obtain ⟨g,h1,h2,h3⟩:=h k hk;refine ⟨g,h1,h2,?_⟩;have hl:=h3.lt;unfold Blk at *;rw [x.2 g h2 hl];exact h3
theorem DL {N K:Nat} {w:World} {CS:Array Value} {i g:Nat} {F:Nat -> Nat -> Nat} (h:my N K w CS i F) (hi:i<CS.size) (hg:N <= g) (k:Blk w g 22 (Fa K (F i))):my N K w (CS.setIfInBounds i (.slice (some ⟨g,0,none⟩) K K)) (i+1) F:=fun j hj=>by
 by_cases e:i=j
 ·subst e
  exact ⟨g,by simp [hi],hg,k⟩
 ·obtain ⟨u,h1,h2⟩:=h j (by omega)
  exact ⟨u,by rw [Array.getElem?_setIfInBounds_ne e];exact h1,h2⟩
theorem Hy (w:World) (t1 t2 t3 t4:TypeId) (Bc ed Mf ft:Array Value) :
  Blk ((((w.alloc (.cells Bc t1)).alloc (.cells ed t2)).alloc (.cells Mf t3)).alloc (.cells ft t4)) w.heap.size t1 Bc /\ Blk ((((w.alloc (.cells Bc t1)).alloc (.cells ed t2)).alloc (.cells Mf t3)).alloc (.cells ft t4)) (w.heap.size+1) t2 ed /\ Blk ((((w.alloc (.cells Bc t1)).alloc (.cells ed t2)).alloc (.cells Mf t3)).alloc (.cells ft t4)) (w.heap.size+1+1) t3 Mf /\ Blk ((((w.alloc (.cells Bc t1)).alloc (.cells ed t2)).alloc (.cells Mf t3)).alloc (.cells ft t4)) (w.heap.size+1+1+1) t4 ft /\
   Below w.heap.size w ((((w.alloc (.cells Bc t1)).alloc (.cells ed t2)).alloc (.cells Mf t3)).alloc (.cells ft t4)) /\ ((((w.alloc (.cells Bc t1)).alloc (.cells ed t2)).alloc (.cells Mf t3)).alloc (.cells ft t4)).heap.size=w.heap.size+4:=by
 obtain ⟨h1,h2,h3,h4,h5⟩:=Bl w t1 t2 t3 Bc ed Mf;refine ⟨h1.alloc _,h2.alloc _,h3.alloc _,?_,h4.alloc (by omega) _,by simp⟩
 have:=Blk.new (((w.alloc (.cells Bc t1)).alloc (.cells ed t2)).alloc (.cells Mf t3)) t4 ft;rw [h5] at this;exact this
theorem MP {w:World} {base g n:Nat} {F:Nat -> Nat} (k:Blk w g 22 (Fa n F)) (hb:base <= g) (hn:n <= maxLen):w.ownsRow base 22 1 (.slice (some ⟨g,0,none⟩) n n) n (Ca ((List.range n).map F)):=by
 have hl:(Ca ((List.range n).map F)).length=n:=by simp [Ca]
 refine ⟨by rw [hl];omega, .inr ⟨g,n,Fa n F,rfl,hb,k,zR,hn,by simp [Fa],?_⟩⟩
 rw [Dq,List.take_of_length_le (by rw [hl];omega)]
theorem BA {L:Va} {r:List (List Nat)} {co li qu sa:List Nat} (h:Qm L r co li qu sa=true) :
  r.length=L.a+L.b+L.b+L.b /\ (∀ x∈r,x.length=L.queries /\ ∀ y∈x,y<L.p) /\ (co.length=L.k /\ ∀ y∈co,y<L.p) /\ (li.length=L.k+L.block-2 /\ ∀ y∈li,y<L.p) /\ (qu.length=L.block+2*L.queries-1 /\ ∀ y∈qu,y<L.p):=by
 unfold Qm Yf at h;simp only [Bool.and_eq_true,List.all_eq_true,decide_eq_true_eq] at h;exact ⟨h.1,h.2.1,h.2.2.1,h.2.2.2.1,h.2.2.2.2.1⟩
theorem VJ (l:List Nat) (n:Nat) (h:l.length=n):(List.range n).map (fun k=>l.getD k 0)=l:=by
 subst h;refine DE (by simp) fun i hi=>?_
 simp at hi
 rw [fF,if_pos hi]
end Go.Proofs.YtjipleoamlmkfaaGreat
