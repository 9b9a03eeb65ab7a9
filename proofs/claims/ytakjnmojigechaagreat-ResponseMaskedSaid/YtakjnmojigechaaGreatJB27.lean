/- A part of the proof. No condition. -/
import Derived.Test.YtakjnmojigechaaGreatProg
import Derived.Test.YtakjnmojigechaaGreatJB14
import Derived.Test.YtakjnmojigechaaGreatJB26
import Derived.Test.YtakjnmojigechaaGreatJB23

namespace Go.Proofs.YtakjnmojigechaaGreat
open Go.RowKit
theorem Jn {n:Nat} (h:2≤n):UI n=2^((n-1).log2+1)∧n≤UI n∧∀ j,j<(n-1).log2+1→2^j<n:=by
 have h0:n-1≠0:=by omega
 have h1:=Nat.log2_self_le h0
 have h2:=@Nat.lt_log2_self (n-1)
 refine ⟨rfl,by unfold UI;omega,fun j hj=>?_⟩
 have:=Nat.pow_le_pow_right (show 0<2 by decide) (show j≤(n-1).log2 by omega)
 omega
theorem yg {L:ZO} (h:ZU L) {n:Nat} (h2:2≤n) (hn:n≤L.n):XS L.p (UI n)∧UI n≤L.n:=by
 obtain ⟨e,-,hj⟩:=Jn h2
 obtain ⟨t,ht⟩:=h.n
 have hn2:=h.n2
 have hle:(n-1).log2+1≤t:=by
  rcases Nat.lt_or_ge t ((n-1).log2+1) with q | q
  ·have:=hj t q;omega
  ·exact q
 have hle2:UI n≤L.n:=by rw [e,ht];exact Nat.pow_le_pow_right (by decide) hle
 refine ⟨⟨by rw [e];exact Nat.one_le_two_pow,by omega,⟨_,e⟩,?_⟩,hle2⟩
 have hd:UI n∣L.n:=by rw [e,ht];exact Nat.pow_dvd_pow 2 hle
 exact Nat.mod_eq_zero_of_dvd (Nat.dvd_trans hd (Nat.dvd_of_mod_eq_zero h.nd))
def pcF (p K al:Nat) (F:Nat→Nat) (R:Nat→Nat→Nat):Nat→Nat→Nat
 | 0=>F
 | i+1=>Um p (X7 p al (i+1)) (pcF p K al F R i) (R i) K
def plF (p len:Nat) (F:Nat→Nat) (D:Nat→Nat→Nat):Nat→Nat→Nat
 | 0=>F
 | i+1=>Um p 1 (plF p len F D i) (D i) len
def pqF (p K len be:Nat) (F:Nat→Nat) (D Z:Nat→Nat→Nat):Nat→Nat→Nat
 | 0=>F
 | j+1=>Um p (Y1 p (X7 p be (j+1))) (Um p (X7 p be (j+1)) (pqF p K len be F D Z j) (D j) len) (Z j) K
theorem GZ {p s t:Nat} (hp:0<p) {F G:Nat→Nat} (h:∀ k,F k<p) (k:Nat):Um p s F G t k<p:=by
 unfold Um X8
 split
 ·exact Nat.mod_lt _ hp
 ·exact h k
theorem zC0 {p K al:Nat} (hp:0<p) {F:Nat→Nat} {R:Nat→Nat→Nat} (h:∀ k,F k<p):∀ i k,pcF p K al F R i k<p
 | 0=>h
 | i+1=>GZ hp (zC0 hp h i)
theorem zD6 {p len:Nat} (hp:0<p) {F:Nat→Nat} {D:Nat→Nat→Nat} (h:∀ k,F k<p):∀ i k,plF p len F D i k<p
 | 0=>h
 | i+1=>GZ hp (zD6 hp h i)
theorem kD {p K len be:Nat} (hp:0<p) {F:Nat→Nat} {D Z:Nat→Nat→Nat} (h:∀ k,F k<p):∀ j k,pqF p K len be F D Z j k<p
 | 0=>h
 | j+1=>GZ hp (GZ hp (kD hp h j))
def Ex3 (g1 g2 g3:Nat) (w w':World):Prop:=Below 0 w w'∧∀ b,b<w.heap.size→b≠g1→b≠g2→b≠g3→w'.heap[b]?=w.heap[b]?
theorem zB5 (g1 g2 g3:Nat) (w:World):Ex3 g1 g2 g3 w w:=⟨Below.refl _ _,fun _ _ _ _ _=>rfl⟩
theorem XJ {g1 g2 g3:Nat} {a b c:World} (x:Ex3 g1 g2 g3 a b) (y:Ex3 g1 g2 g3 b c):Ex3 g1 g2 g3 a c :=
 ⟨x.1.trans y.1,fun k h h1 h2 h3=>(y.2 k (Nat.lt_of_lt_of_le h x.1.size) h1 h2 h3).trans (x.2 k h h1 h2 h3)⟩
theorem Vy {g1 g2 g3:Nat} {a b:World} (x:Below a.heap.size a b):Ex3 g1 g2 g3 a b:=⟨x.mono (Nat.zero_le _),fun k h _ _ _=>x.block k h⟩
theorem Xz {g1 g2 g3:Nat} {a b:World} {u:Nat} (x:a.grownBy b (some u)) (hu:u=g1∨u=g2∨u=g3):Ex3 g1 g2 g3 a b :=
 ⟨YT x 0 (Nat.zero_le _) (fun _ _=>Nat.zero_le _),fun k h h1 h2 h3=>x.block k h (fun e=>by
  have e1:=Option.some.inj e
  rcases hu with e2 | e2 | e2
  ·exact h1 (e1.trans e2)
  ·exact h2 (e1.trans e2)
  ·exact h3 (e1.trans e2))⟩
theorem GW {g1 g2 g3 b:Nat} {w w':World} {t:TypeId} {cs:Array Value} (k:Blk w b t cs) (x:Ex3 g1 g2 g3 w w') (h1:b≠g1) (h2:b≠g2) (h3:b≠g3):Blk w' b t cs:=by
 have hl:=k.lt
 unfold Blk at *
 rw [x.2 b hl h1 h2 h3]
 exact k
theorem ex3_to {g1 g2 g3 B:Nat} {a b c:World} (hab:Below B a b) (x:Ex3 g1 g2 g3 b c) (hB:B≤b.heap.size) (h1:B≤g1) (h2:B≤g2) (h3:B≤g3):Below B a c :=
 hab.trans ⟨x.1.os,x.1.tape,x.1.output,x.1.size,fun k hk=>x.2 k (by omega) (by omega) (by omega) (by omega)⟩
theorem KY {g1 g2 g3 g base n c:Nat} {w w':World} {e:TypeId} {q:Nat} {xs:List Value} (h:w.ownsRow base e 1 (.slice (some ⟨g,q,none⟩) n c) n xs) (x:Ex3 g1 g2 g3 w w') (h1:g≠g1) (h2:g≠g2) (h3:g≠g3):w'.ownsRow base e 1 (.slice (some ⟨g,q,none⟩) n c) n xs:=by
 obtain ⟨k1,k2⟩:=h
 refine ⟨k1,?_⟩
 rcases k2 with k2 | ⟨g',cap,cur,hv,hgb,hh,r⟩
 ·exact Or.inl k2
 ·have he:g=g':=by
   injection hv with e1
   injection e1 with e1
   injection e1
  subst he
  exact Or.inr ⟨g,cap,cur,hv,hgb,by rw [x.2 g (Array.getElem?_eq_some_iff.1 hh).1 h1 h2 h3];exact hh,r⟩
def z8 (N:Nat) (w w':World):Prop:=w.heap.size≤w'.heap.size∧∀ b,N≤b→b<w.heap.size→w'.heap[b]?=w.heap[b]?
theorem VV {N:Nat} {a b c:World} (x:z8 N a b) (y:z8 N b c):z8 N a c:=⟨Nat.le_trans x.1 y.1,fun k h1 h2=>(y.2 k h1 (Nat.lt_of_lt_of_le h2 x.1)).trans (x.2 k h1 h2)⟩
theorem YV {N:Nat} {a b:World} (x:Below a.heap.size a b):z8 N a b:=⟨x.size,fun k _ h=>x.block k h⟩
theorem zGu {g1 g2 g3 N:Nat} {a b:World} (x:Ex3 g1 g2 g3 a b) (h1:g1<N) (h2:g2<N) (h3:g3<N):z8 N a b:=⟨x.1.size,fun k hk h=>x.2 k h (by omega) (by omega) (by omega)⟩
theorem Vq {g N:Nat} {a b:World} (x:a.grownBy b (some g)) (h1:g<N):z8 N a b:=⟨x.size,fun k hk h=>x.block k h (fun e=>by have:=Option.some.inj e;omega)⟩
def zBs (N K:Nat) (w:World) (CS:Array Value) (i:Nat) (F:Nat→Nat→Nat):Prop:=∀ k,k<i→∃ g,CS[k]?=some (.slice (some ⟨g,0,none⟩) K K)∧N≤g∧Blk w g 22 (Zm K (F k))
theorem Y6 {N K:Nat} {w w':World} {CS:Array Value} {i:Nat} {F:Nat→Nat→Nat} (h:zBs N K w CS i F) (x:z8 N w w'):zBs N K w' CS i F:=fun k hk=>by
 obtain ⟨g,h1,h2,h3⟩:=h k hk
 refine ⟨g,h1,h2,?_⟩
 have hl:=h3.lt
 unfold Blk at *
 rw [x.2 g h2 hl]
 exact h3
theorem zFv {N K:Nat} {w:World} {CS:Array Value} {i g:Nat} {F:Nat→Nat→Nat} (h:zBs N K w CS i F) (hi:i<CS.size) (hg:N≤g) (k:Blk w g 22 (Zm K (F i))):zBs N K w (CS.setIfInBounds i (.slice (some ⟨g,0,none⟩) K K)) (i+1) F:=fun j hj=>by
 by_cases e:i=j
 ·subst e
  exact ⟨g,by simp [hi],hg,k⟩
 ·obtain ⟨u,h1,h2⟩:=h j (by omega)
  exact ⟨u,by rw [Array.getElem?_setIfInBounds_ne e];exact h1,h2⟩
theorem J5 (w:World) (t1 t2 t3 t4:TypeId) (cs1 cs2 cs3 cs4:Array Value) :
  Blk ((((w.alloc (.cells cs1 t1)).alloc (.cells cs2 t2)).alloc (.cells cs3 t3)).alloc (.cells cs4 t4)) w.heap.size t1 cs1∧Blk ((((w.alloc (.cells cs1 t1)).alloc (.cells cs2 t2)).alloc (.cells cs3 t3)).alloc (.cells cs4 t4)) (w.heap.size+1) t2 cs2∧Blk ((((w.alloc (.cells cs1 t1)).alloc (.cells cs2 t2)).alloc (.cells cs3 t3)).alloc (.cells cs4 t4)) (w.heap.size+1+1) t3 cs3∧Blk ((((w.alloc (.cells cs1 t1)).alloc (.cells cs2 t2)).alloc (.cells cs3 t3)).alloc (.cells cs4 t4)) (w.heap.size+1+1+1) t4 cs4 ∧
   Below w.heap.size w ((((w.alloc (.cells cs1 t1)).alloc (.cells cs2 t2)).alloc (.cells cs3 t3)).alloc (.cells cs4 t4))∧((((w.alloc (.cells cs1 t1)).alloc (.cells cs2 t2)).alloc (.cells cs3 t3)).alloc (.cells cs4 t4)).heap.size=w.heap.size+4:=by
 obtain ⟨h1,h2,h3,h4,h5⟩:=XH w t1 t2 t3 cs1 cs2 cs3
 refine ⟨h1.alloc _,h2.alloc _,h3.alloc _,?_,h4.alloc (by omega) _,by simp⟩
 have:=Blk.new (((w.alloc (.cells cs1 t1)).alloc (.cells cs2 t2)).alloc (.cells cs3 t3)) t4 cs4
 rw [h5] at this
 exact this
theorem zCq {w:World} {base g n:Nat} {F:Nat→Nat} (k:Blk w g 22 (Zm n F)) (hb:base≤g) (hn:n≤maxLen):w.ownsRow base 22 1 (.slice (some ⟨g,0,none⟩) n n) n (U64 ((List.range n).map F)):=by
 have hl:(U64 ((List.range n).map F)).length=n:=by simp [U64]
 refine ⟨by rw [hl];omega, .inr ⟨g,n,Zm n F,rfl,hb,k,Nat.le_refl _,hn,by simp [Zm],?_⟩⟩
 rw [VJ,List.take_of_length_le (by rw [hl];omega)]
theorem Y4 {L:ZO} {r:List (List Nat)} {co li qu sa:List Nat} (h:Uy L r co li qu sa=true) :
  r.length=L.a+L.b+L.b+L.b∧(∀ x∈r,x.length=L.queries∧∀ y∈x,y<L.p)∧(co.length=L.k∧∀ y∈co,y<L.p)∧(li.length=L.k+L.block-2∧∀ y∈li,y<L.p)∧(qu.length=L.block+2*L.queries-1∧∀ y∈qu,y<L.p):=by
 unfold Uy Va at h
 simp only [Bool.and_eq_true,List.all_eq_true,decide_eq_true_eq] at h
 exact ⟨h.1,h.2.1,h.2.2.1,h.2.2.2.1,h.2.2.2.2.1⟩
theorem J7 (l:List Nat) (n:Nat) (h:l.length=n):(List.range n).map (fun k=>l.getD k 0)=l:=by
 subst h
 refine VY (by simp) fun i hi=>?_
 simp at hi
 rw [Yp,if_pos hi]
end Go.Proofs.YtakjnmojigechaaGreat
namespace Go.Proofs.YtakjnmojigechaaGreat
def UO (L:ZO) (m r:List (List Nat)) (i:Nat):Nat→Nat:=JG L (m.getD i []) (r.getD i [])
def VS (L:ZO) (m r:List (List Nat)) (i:Nat):List Nat:=(List.range L.k).map (UO L m r i)
def jc (L:ZO) (cs m r:List (List Nat)) (i:Nat):Nat→Nat :=
 jb L.p (UI (L.k+L.block-1)) ((L.k+L.block-1-1).log2+1) ((List.range L.block).map (J2 L.p L.block L.block.log2 (cs.getD i []))) (VS L m r i)
def Ko (L:ZO) (m r:List (List Nat)) (j:Nat):Nat→Nat :=
 jb L.p (UI (2*L.k-1)) ((2*L.k-1-1).log2+1) (VS L m r (L.a+j)) (VS L m r (L.a+L.b+j))
def ko (L:ZO) (m r:List (List Nat)) (j:Nat):Nat→Nat:=UO L m r (L.a+L.b+L.b+j)
end Go.Proofs.YtakjnmojigechaaGreat
namespace Go.Proofs.YtakjnmojigechaaGreat
def YY (L:ZO) (m r:List (List Nat)):List (List Nat):=(List.range m.length).map (G3 L m r)
def XW (L:ZO) (m r:List (List Nat)) (co:List Nat) (al:Nat):List Nat:=Vn (Vf L.p co (VZ L.p (YY L m r) al m.length)) L.k
def XV (L:ZO) (cs m r:List (List Nat)) (li:List Nat):List Nat:=Vn (Vf L.p (YL L li) (JD L.p (YY L m r) (wtD L.p cs) m.length)) (L.k+L.block-1)
def XN (L:ZO) (m r:List (List Nat)) (qu:List Nat) (be:Nat):List Nat:=Vn (Vf L.p (Ui L qu) (XX L.p L.a L.b (YY L m r) be L.b)) (2*L.k-1)
structure VG (L:ZO) (m r:List (List Nat)):Prop where
 ml:m.length=L.a+L.b+L.b+L.b
 rl:r.length=m.length
 mr:∀ x∈m,x.length=L.block
 rr:∀ x∈r,x.length=L.queries
theorem XM {l:List (List Nat)} {P:List Nat→Prop} (h:∀ x∈l,P x) {i:Nat} (hi:i<l.length):P (l.getD i []):=by
 rw [X0 hi]
 exact h _ (List.getElem_mem hi)
theorem Vz {L:ZO} (hL:ZU L) {m r:List (List Nat)} (h:VG L m r) {i:Nat} (hi:i<m.length):(YY L m r).getD i []=VS L m r i:=by
 have e:(YY L m r).getD i []=G3 L m r i:=by
  rw [YY,List.getD_eq_getElem?_getD,List.getElem?_map,List.getElem?_range hi]
  rfl
 have h1:=XM h.mr hi
 have h2:=XM h.rr (show i<r.length by rw [h.rl];exact hi)
 rw [e,G3,zKx hL h1 h2,Gk,h2,←hL.k]
 rfl
theorem zC (L:ZO) (m r:List (List Nat)):(YY L m r).length=m.length:=by simp [YY]
theorem KU {L:ZO} (hL:ZU L) {m r:List (List Nat)} (h:VG L m r):∀ x∈YY L m r,x.length=L.k:=fun x hx=>by
 obtain ⟨i,hi,rfl⟩:=List.getElem_of_mem hx
 rw [zC] at hi
 have e:=Vz hL h hi
 rw [X0 (by rw [zC];exact hi)] at e
 rw [e]
 simp [VS]
theorem zCn (p a b c:Nat):((a+b)%p+c%p)%p=(a+(b+c%p)%p)%p:=by
 rw [Nat.mod_add_mod,Nat.add_mod_mod a,Nat.add_assoc]
theorem G6 {p s t k:Nat} {F G:Nat→Nat} (h:k<t):Um p s F G t k=(F k+s*G k%p)%p:=by
 unfold Um X8
 rw [if_pos h]
theorem zF2 {p s t k:Nat} {F G:Nat→Nat} (h:¬k<t):Um p s F G t k=F k:=by
 unfold Um X8
 rw [if_neg h]
theorem j5 {L:ZO} (hL:ZU L) {m r:List (List Nat)} (h:VG L m r) {co:List Nat} (hc:co.length=L.k) (hlt:∀ y∈co,y<L.p) (al:Nat) :
  (List.range L.k).map (pcF L.p L.k al (fun k=>co.getD k 0) (UO L m r) m.length)=XW L m r co al:=by
 have hp:=Zr hL.p
 have hl:(XW L m r co al).length=L.k:=by
  rw [XW,JV]
  have h1:=XT L.p co (VZ L.p (YY L m r) al m.length)
  have h2:=K6 (p:=L.p) (al:=al) (fun x hx=>Nat.le_of_eq (KU hL h x hx)) m.length
  omega
 refine VY (by rw [hl];simp) fun k hk=>?_
 simp at hk
 rw [Yp,if_pos hk,XW,JJ,XO]
 have key:∀ i,i≤m.length→pcF L.p L.k al (fun k=>co.getD k 0) (UO L m r) i k=(co.getD k 0+(VZ L.p (YY L m r) al i).getD k 0)%L.p:=fun i=>by
  induction i with
  | zero =>
   intro _
   rw [pcF,VZ]
   exact (Nat.mod_eq_of_lt (by simpa using Uz (by omega) hlt k)).symm
  | succ i ih =>
   intro hi
   rw [pcF,G6 hk,ih (by omega),VZ,XO,VP,Vz hL h (by omega),VS,Yp,if_pos hk,Nat.mul_comm (X7 L.p al (i+1)),zCn]
 exact key _ (Nat.le_refl _)
theorem zD8 {L:ZO} (hL:ZU L) {cs:List (List Nat)} (hcs:∀ x∈cs,x.length=L.block) {i:Nat} (hi:i<cs.length):(wtD L.p cs).getD i []=(List.range L.block).map (J2 L.p L.block L.block.log2 (cs.getD i [])):=by
 obtain ⟨hlen,j,hj⟩:=Ub hL
 have hlog:L.block.log2=j:=by rw [hj];exact Nat.log2_two_pow
 have h1:=XM hcs hi
 have e:(wtD L.p cs).getD i []=wtF L.p cs i:=by
  rw [wtD,List.getD_eq_getElem?_getD,List.getElem?_map,List.getElem?_range hi]
  rfl
 rw [e,wtF,h1]
 refine List.map_congr_left fun k hk=>?_
 have hk':=List.mem_range.1 hk
 rw [zBw (j:=j) _ hL.p (by rw [h1];exact hlen) (by rw [h1];exact hj) (by omega),h1,hlog]
theorem GG {p:Nat} (hp:0<p) (a b:List Nat) (k:Nat):(Vs p a b).getD k 0<p:=Uz hp (fun _ h=>zJ6 hp h) k
theorem zIa {L:ZO} (hL:ZU L) {cs m r:List (List Nat)} (h:VG L m r) (hcs:∀ x∈cs,x.length=L.block) (hcl:cs.length=m.length) {i k:Nat} (hi:i<m.length) (hk:k<L.k+L.block-1) :
  jc L cs m r i k=(Vs L.p ((wtD L.p cs).getD i []) ((YY L m r).getD i [])).getD k 0:=by
 have hp:=Zr hL.p
 have hb1:=hL.b1
 have hkk:=hL.k
 have hnk:=hL.nk
 have hq1:=hL.q1
 have h2:2≤L.k+L.block-1:=by omega
 obtain ⟨hM,-⟩:=yg hL h2 (by omega)
 obtain ⟨e,hle,-⟩:=Jn h2
 rw [zD8 hL hcs (by omega),Vz hL h hi]
 unfold jc
 refine Cg.eq (p:=L.p) (zEs hL.p hM e _ _ (by simp;omega) (by simp [VS];omega) k (by omega)) (zE9 (by omega) _ _ _) (GG (by omega) _ _ _)
theorem zBi {L:ZO} (hL:ZU L) {cs m r:List (List Nat)} (h:VG L m r) (hcs:∀ x∈cs,x.length=L.block) (hcl:cs.length=m.length) {li:List Nat} (hl:li.length=L.k+L.block-2) (hlt:∀ y∈li,y<L.p) :
  (List.range (L.k+L.block-1)).map (plF L.p (L.k+L.block-1) (fun k=>(YL L li).getD k 0) (jc L cs m r) m.length)=XV L cs m r li:=by
 have hp:=Zr hL.p
 have hb1:=hL.b1
 have hkk:=hL.k
 have hq1:=hL.q1
 have hml:(YL L li).length=L.k+L.block-1:=by rw [YL,List.length_cons];omega
 have hmlt:∀ k,(YL L li).getD k 0<L.p:=fun k=>by
  cases k with
  | zero=>exact GQ (by omega) _ _
  | succ k=>exact Uz (by omega) hlt k
 have hwl:∀ x∈wtD L.p cs,x.length≤L.block:=fun x hx=>by
  obtain ⟨i,hi,rfl⟩:=List.mem_map.1 hx
  rw [wtF,List.length_map,List.length_range,XM hcs (List.mem_range.1 hi)]
  exact Nat.le_refl _
 have hln:(XV L cs m r li).length=L.k+L.block-1:=by
  rw [XV,JV]
  have h1:=XT L.p (YL L li) (JD L.p (YY L m r) (wtD L.p cs) m.length)
  have h2:=zj (p:=L.p) (fun x hx=>Nat.le_of_eq (KU hL h x hx)) hwl m.length
  omega
 refine VY (by rw [hln];simp) fun k hk=>?_
 simp at hk
 rw [Yp,if_pos (by omega),XV,JJ,XO]
 have key:∀ i,i≤m.length→plF L.p (L.k+L.block-1) (fun k=>(YL L li).getD k 0) (jc L cs m r) i k=((YL L li).getD k 0+(JD L.p (YY L m r) (wtD L.p cs) i).getD k 0)%L.p:=fun i=>by
  induction i with
  | zero =>
   intro _
   rw [plF,JD]
   exact (Nat.mod_eq_of_lt (by simpa using hmlt k)).symm
  | succ i ih =>
   intro hi
   rw [plF,G6 (by omega),ih (by omega),JD,XO,zIa hL h hcs hcl (by omega) (by omega),Nat.one_mul,zCn]
   rw [Nat.mod_eq_of_lt (GG (p:=L.p) (by omega) _ _ _)]
 exact key _ (Nat.le_refl _)
theorem zGi {L:ZO} (hL:ZU L) {m r:List (List Nat)} (h:VG L m r) {j k:Nat} (hj:j<L.b) (hk:k<2*L.k-1) :
  Ko L m r j k=(Vs L.p ((YY L m r).getD (L.a+j) []) ((YY L m r).getD (L.a+L.b+j) [])).getD k 0:=by
 have hp:=Zr hL.p
 have hb1:=hL.b1
 have hkk:=hL.k
 have hnk:=hL.nk
 have hq1:=hL.q1
 have hml:=h.ml
 have h2:2≤2*L.k-1:=by omega
 obtain ⟨hM,-⟩:=yg hL h2 (by omega)
 obtain ⟨e,hle,-⟩:=Jn h2
 rw [Vz hL h (by omega),Vz hL h (by omega)]
 unfold Ko
 refine Cg.eq (p:=L.p) (zEs hL.p hM e _ _ (by simp [VS];omega) (by simp [VS];omega) k (by omega)) (zE9 (by omega) _ _ _) (GG (by omega) _ _ _)
theorem X4 {p:Nat} (a b:Nat):Cg p ((a*b%p:Nat):Int) ((a:Int)*(b:Int)):=(Cg.mod _).trans (Cg.of_eq (Int.natCast_mul _ _))
theorem VM {p:Nat} (a b:Nat):Cg p (((a+b)%p:Nat):Int) ((a:Int)+(b:Int)):=(Cg.mod _).trans (Cg.of_eq (Int.natCast_add _ _))
theorem gap_cg {p:Nat} (hp:1<p) (a b:List Nat) (k:Nat):Cg p ((ye p a b).getD k 0:Int) ((a.getD k 0:Int)-(b.getD k 0:Int)):=by
 rw [ye,XO,VP]
 refine (VM _ _).trans ?_
 have h1:=(X4 (p:=p) (b.getD k 0) (Y1 p 1)).trans (Cg.rfl'.mul (UV p 1 (by omega)))
 refine (Cg.rfl'.add h1).trans (Cg.of_eq ?_)
 have:(((1:Nat):Int))=1:=rfl
 rw [this,Int.mul_neg,Int.mul_one]
 rfl
theorem jv {L:ZO} (hL:ZU L) {m r:List (List Nat)} (h:VG L m r) {qu:List Nat} (hq:qu.length=L.block+2*L.queries-1) (be:Nat) :
  (List.range (2*L.k-1)).map (pqF L.p L.k (2*L.k-1) be (Vi L.p L.block qu qu.length) (Ko L m r) (ko L m r) L.b)=XN L m r qu be:=by
 have hp:=Zr hL.p
 have hb1:=hL.b1
 have hkk:=hL.k
 have hq1:=hL.q1
 have hml:=h.ml
 have hql:(Ui L qu).length=2*L.k-1:=by rw [KC hL hq,Gf,List.length_map,List.length_range];omega
 have hln:(XN L m r qu be).length=2*L.k-1:=by
  rw [XN,JV]
  have h1:=XT L.p (Ui L qu) (XX L.p L.a L.b (YY L m r) be L.b)
  have h2:=K7 (p:=L.p) (a:=L.a) (b:=L.b) (be:=be) (fun x hx=>Nat.le_of_eq (KU hL h x hx)) L.b
  omega
 refine VY (by rw [hln];simp) fun k hk=>?_
 simp at hk
 rw [Yp,if_pos hk,XN,JJ,XO]
 have key:∀ j,j≤L.b→Cg L.p (pqF L.p L.k (2*L.k-1) be (Vi L.p L.block qu qu.length) (Ko L m r) (ko L m r) j k:Int) (((Ui L qu).getD k 0:Int)+((XX L.p L.a L.b (YY L m r) be j).getD k 0:Int)):=fun j=>by
  induction j with
  | zero =>
   intro _
   rw [pqF,XX,KC hL hq,Gf,Yp,if_pos (by omega)]
   exact Cg.of_eq (by simp)
  | succ j ih =>
   intro hj
   have ih:=ih (by omega)
   have hz:ko L m r j k=if k<L.k then ((YY L m r).getD (L.a+L.b+L.b+j) []).getD k 0 else ko L m r j k:=by
    split
    ·rename_i hkL
     rw [Vz hL h (by omega),VS,Yp,if_pos hkL]
     rfl
    ·rfl
   obtain ⟨F,hF⟩:∃ F,F=pqF L.p L.k (2*L.k-1) be (Vi L.p L.block qu qu.length) (Ko L m r) (ko L m r) j:=⟨_,rfl⟩
   obtain ⟨P,hP⟩:∃ P,P=X7 L.p be (j+1):=⟨_,rfl⟩
   rw [←hF] at ih
   rw [pqF,XX,XO,VP,←hF,←hP,zD3]
   have hG:=gap_cg (p:=L.p) (by omega) (Vs L.p ((YY L m r).getD (L.a+j) []) ((YY L m r).getD (L.a+L.b+j) [])) ((YY L m r).getD (L.a+L.b+L.b+j) []) k
   rw [←zGi hL h (by omega) hk] at hG
   generalize ((ye L.p (Vs L.p ((YY L m r).getD (L.a+j) []) ((YY L m r).getD (L.a+L.b+j) [])) ((YY L m r).getD (L.a+L.b+L.b+j) [])).getD k 0)=G at hG ⊢
   have hR:Cg L.p ((((Ui L qu).getD k 0:Nat):Int)+((((XX L.p L.a L.b (YY L m r) be j).getD k 0+G*P%L.p)%L.p:Nat):Int)) ((((Ui L qu).getD k 0:Nat):Int)+(((XX L.p L.a L.b (YY L m r) be j).getD k 0:Nat):Int)+(G:Int)*(P:Int)):=by
    refine (Cg.rfl'.add ((VM _ _).trans (Cg.rfl'.add (X4 _ _)))).trans (Cg.of_eq ?_)
    omega
   refine Cg.trans ?_ hR.symm
   have h1:Cg L.p ((Um L.p P F (Ko L m r j) (2*L.k-1) k:Nat):Int) ((F k:Int)+(P:Int)*(Ko L m r j k:Int)):=by
    rw [G6 hk]
    exact (VM _ _).trans (Cg.rfl'.add (X4 _ _))
   by_cases hkL:k<L.k
   ·rw [if_pos hkL] at hz
    rw [G6 hkL]
    refine (VM _ _).trans ?_
    refine (h1.add ((X4 _ _).trans ((UV L.p P (by omega)).mul Cg.rfl'))).trans ?_
    rw [hz]
    refine ((ih.add Cg.rfl').add Cg.rfl').trans ?_
    refine Cg.trans (Cg.of_eq ?_) (Cg.rfl'.add (hG.mul Cg.rfl').symm)
    grind
   ·rw [zF2 hkL]
    refine h1.trans ?_
    have hz0:((YY L m r).getD (L.a+L.b+L.b+j) []).getD k 0=0:=UH (by rw [Vz hL h (by omega)];simp [VS];omega)
    rw [hz0] at hG
    refine (ih.add Cg.rfl').trans ?_
    refine Cg.trans (Cg.of_eq ?_) (Cg.rfl'.add (hG.mul Cg.rfl').symm)
    grind
 refine Cg.eq (p:=L.p) ((key _ (Nat.le_refl _)).trans ?_) (kD (by omega) (fun k=>JA (by omega) _ _ _) _ _) (Nat.mod_lt _ (by omega))
 exact (VM _ _).symm
theorem UU {L:ZO} (hL:ZU L) {cs m r:List (List Nat)} (h:VG L m r) (hcs:∀ x∈cs,x.length=L.block) (hcl:cs.length=m.length) {co li qu:List Nat} (hc:co.length=L.k∧∀ y∈co,y<L.p) (hl:li.length=L.k+L.block-2∧∀ y∈li,y<L.p) (hq:qu.length=L.block+2*L.queries-1) (al be:Nat) :
  Vc L (XW L m r co al) (XV L cs m r li) (XN L m r qu be)=true:=by
 have hp:=Zr hL.p
 rw [←j5 hL h hc.1 hc.2,←zBi hL h hcs hcl hl.1 hl.2,←jv hL h hq]
 unfold Vc
 simp only [List.length_map,List.length_range,decide_true,Bool.true_and,Bool.and_eq_true,List.all_eq_true,decide_eq_true_eq,List.mem_map,List.mem_range]
 refine ⟨⟨?_,?_⟩,?_⟩
 ·rintro x ⟨k,-,rfl⟩
  exact zC0 (by omega) (fun k=>Uz (by omega) hc.2 k) _ _
 ·rintro x ⟨k,-,rfl⟩
  refine zD6 (by omega) (fun k=>?_) _ _
  cases k with
  | zero=>exact GQ (by omega) _ _
  | succ k=>exact Uz (by omega) hl.2 k
 ·rintro x ⟨k,-,rfl⟩
  exact kD (by omega) (fun k=>JA (by omega) _ _ _) _ _
end Go.Proofs.YtakjnmojigechaaGreat
