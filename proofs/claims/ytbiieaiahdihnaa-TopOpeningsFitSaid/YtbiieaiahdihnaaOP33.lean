/- A part of the proof. No condition. -/
import Derived.Test.YtbiieaiahdihnaaProg
import Derived.Test.YtbiieaiahdihnaaOP31

namespace Go.Proofs.Ytbiieaiahdihnaa
open Go.RowKit Go.Maps
def KRR (K:Nat→Prop) (w:World) (v:Value) (ls:List (List Nat)):Prop :=
 ∃ A n c,v= .slice A n c∧ls.length=n∧n≤c∧c≤maxLen∧∀ (i:Nat) (hi:i<ls.length),∃ b q A1 n1 c1,A=some ⟨b,q,none⟩∧K b∧b<w.heap.size∧w.cell? ⟨b,q+i,none⟩=some (.slice A1 n1 c1)∧KRd K w (.slice A1 n1 c1) ls[i]
section
variable {K K' F F' F'' T:Nat→Prop} {w w':World} {v:Value} {ls:List (List Nat)}
theorem Ku (h:KRR K w v ls) (hs:w.heap.size≤w'.heap.size) (hw:∀ b,K b→b<w.heap.size→w'.heap[b]?=w.heap[b]?):KRR K w' v ls:=by
 obtain ⟨A,n,c,h1,h2,h3,h4,h5⟩:=h
 refine ⟨A,n,c,h1,h2,h3,h4,fun i hi=>?_⟩
 obtain ⟨b,q,A1,n1,c1,e1,e2,e3,e4,e5⟩:=h5 i hi
 refine ⟨b,q,A1,n1,c1,e1,e2,by omega,?_,Ya e5 hs hw⟩
 rw [←e4]
 simp only [World.cell?,hw b e2 e3]
theorem Zz (h:KRR K w v ls) (hb:Below w.heap.size w w'):KRR K w' v ls:=Ku h hb.size fun b _ hl=>hb.block b hl
theorem Xf (h:KRR K w v ls) (m:Moved F F' w w') (hK:∀ b,K b→¬F b):KRR K w' v ls:=Ku h m.size fun b hb hl=>m.block b hl (hK b hb)
theorem GN {w0:World} (h:XR w0 [v] ls) (hb:Below w0.heap.size w0 w):KRR (fun b=>b<w0.heap.size) w v ls:=by
 have h':=h
 obtain ⟨A,n,c,h0,-⟩:=h'
 injection h0 with h0
 subst h0
 obtain ⟨h1,h2,h3,h4⟩:=Xu h
 refine ⟨A,n,c,rfl,h1,h2,h3,fun i hi=>?_⟩
 obtain ⟨b,q,A1,n1,c1,e1,e2,e3,e4⟩:=KO h4 hi
 refine ⟨b,q,A1,n1,c1,e1,e2,by have:=hb.size;omega,(hb.cell (p:=⟨b,q+i,none⟩) e2).trans e3,G2 e4 hb⟩
theorem VA (h:KRR K w v ls):XR w [v] ls:=by
 obtain ⟨A,n,c,rfl,h2,h3,h4,h5⟩:=h
 refine ⟨A,n,c,rfl,h2,h3,h4,fun i hi=>?_⟩
 obtain ⟨b,q,A1,n1,c1,e1,e2,e3,e4,e5⟩:=h5 i hi
 refine ⟨⟨b,q,none⟩,[.slice A1 n1 c1],e1,rfl,fun j hj=>?_,Zq e5⟩
 obtain rfl:j=0:=by omega
 rw [X0,show q+(i*1+0)=q+i by omega,e4]
 rfl
theorem J7 {A:Option Addr} {n c:Nat} (h:KRR K w (.slice A n c) ls) {i:Nat} (hi:i<ls.length):∃ b q A1 n1 c1,A=some ⟨b,q,none⟩∧K b∧b<w.heap.size∧w.cell? ⟨b,q+i,none⟩=some (.slice A1 n1 c1)∧KRd K w (.slice A1 n1 c1) (ls.getD i []):=by
 obtain ⟨A',n',c',h1,h2,h3,h4,h5⟩:=h
 injection h1 with e1 e2 e3
 subst e1 e2 e3
 obtain ⟨b,q,A1,n1,c1,e1,e2,e3,e4,e5⟩:=h5 i hi
 exact ⟨b,q,A1,n1,c1,e1,e2,e3,e4,by rw [List.getD_eq_getElem?_getD,List.getElem?_eq_getElem hi];exact e5⟩
theorem xt {A:Option Addr} {n c:Nat} (h:KRR K w (.slice A n c) ls):ls.length=n∧n≤c∧c≤maxLen:=by
 obtain ⟨A',n',c',h1,h2,h3,h4,h5⟩:=h
 injection h1 with e1 e2 e3
 subst e1 e2 e3
 exact ⟨h2,h3,h4⟩
def Uj (T:Nat→Prop) (w:World) (cs:List Value) (ls:List (List Nat)):Prop:=cs.length=ls.length∧∀ (i:Nat) (h1:i<cs.length) (h2:i<ls.length),KRd T w cs[i] ls[i]
theorem Y4 {cs:List Value} (h:Uj T w cs ls) (hs:w.heap.size≤w'.heap.size) (hw:∀ b,T b→b<w.heap.size→w'.heap[b]?=w.heap[b]?):Uj T w' cs ls:=⟨h.1,fun i h1 h2=>Ya (h.2 i h1 h2) hs hw⟩
theorem Gr {cs:List Value} (h:Uj K w cs ls) (hk:∀ b,K b→K' b):Uj K' w cs ls:=⟨h.1,fun i h1 h2=>Yx (h.2 i h1 h2) hk⟩
theorem zD {cs:List Value} {x:Value} {l:List Nat} (h:Uj T w cs ls) (hx:KRd T w x l):Uj T w (cs++[x]) (ls++[l]):=by
 refine ⟨by simp [h.1],fun i h1 h2=>?_⟩
 by_cases hi:i<cs.length
 ·rw [List.getElem_append_left hi]
  have hi2:i<ls.length:=by rw [←h.1];exact hi
  rw [List.getElem_append_left hi2]
  exact h.2 i hi hi2
 ·have e1:i=cs.length:=by simp at h1;omega
  have e2:i=ls.length:=by rw [e1,h.1]
  have g1:(cs++[x])[i]=x:=by subst e1;simp
  have g2:(ls++[l])[i]=l:=by subst e2;simp
  rw [g1,g2]
  exact hx
theorem K4 {cs:List Value} {base n:Nat} {e:TypeId} (h:Uj T w cs ls) (ho:w.ownsRow base e 1 v n cs):KRR (fun b=>T b∨v.ownBlock=some b) w v ls:=by
 have hn:=ho.1
 rcases ho.2 with ⟨rfl,rfl⟩ | ⟨g,cap,cur,hv,hb,hh,h1,h2,-⟩
 ·have:ls=[]:=List.eq_nil_of_length_eq_zero (by rw [←h.1,hn])
  subst this
  exact ⟨none,0,0,rfl,rfl,Nat.le_refl _,by simp [maxLen],fun i hi=>absurd hi (by simp)⟩
 ·subst hv
  refine ⟨_,n,cap,rfl,by rw [←h.1,hn,Nat.mul_one],h1,h2,fun i hi=>?_⟩
  have hi2:i<cs.length:=by rw [h.1];exact hi
  have hc:=ho.cells (g:=g) rfl i cs[i] (List.getElem?_eq_getElem hi2)
  have hk:=h.2 i hi2 hi
  obtain ⟨A1,c1,e1,-⟩:=Yw hk
  rw [e1] at hc hk
  refine ⟨g,0,A1,_,c1,rfl, .inr rfl,(Array.getElem?_eq_some_iff.1 hh).1,?_,Yx hk fun b hb=>.inl hb⟩
  rw [←hc]
  by_cases h0:i=0 <;> simp [Addr.add,h0]
theorem U7 {w:World} {g i:Nat} {t:TypeId} {l:List Nat} (k:Blk w g t (U64 l).toArray) (h:i<l.length):w.cell? ⟨g,i,none⟩=some (.int .u64 ((l.getD i 0:Nat):Int)):=by
 rw [k.cell]
 simp [U64,List.getD_eq_getElem?_getD,h]
def Or1 (F:Nat→Prop) (x:Nat):Nat→Prop:=fun b=>F b∨b=x
theorem VQ (m:Moved F F' w w') (x:Nat):Moved (Or1 F x) (Or1 F' x) w w':=⟨m.os,m.tape,m.output,m.size,fun b hb hn=>m.block b hb (fun hf=>hn (.inl hf)),fun b hb=>by
 rcases hb with hb | hb
 ·rcases m.foot b hb with e | e
  ·exact .inl (.inl e)
  ·exact .inr e
 ·exact .inl (.inr hb)⟩
theorem JI {x:Nat} (w:World) (i:Nat) (u:Value):Moved (Or1 F x) (Or1 F x) w (w.setCell ⟨x,i,none⟩ u) :=
 YK (Zj (p:=⟨x,i,none⟩) (Zl w (some x)) (.inl rfl) u) fun _ h=>.inr (Option.some.inj h).symm
theorem zy {w0:World} {x:Nat} (m0:Moved F F w0 w) (m:Moved (Or1 F x) (Or1 F' x) w w') (hx:w0.heap.size≤x):Moved F F' w0 w' :=
 ⟨m.os.trans m0.os,m.tape.trans m0.tape,m.output.trans m0.output,Nat.le_trans m0.size m.size,
  fun b hb hn=>(m.block b (by have:=m0.size;omega) (fun e=>by rcases e with e | e;exact hn e;omega)).trans (m0.block b hb hn),
  fun b hb=>by
   rcases m.foot b (.inl hb) with e | e
   ·rcases e with e | e
    ·exact .inl e
    ·exact .inr (by omega)
   ·exact .inr (Nat.le_trans m0.size e)⟩
theorem Gu {w0:World} {x:Nat} (m0:Moved F F' w0 w) (m:Moved (Or1 F' x) (Or1 F'' x) w w') (hx:w0.heap.size≤x):Moved F F'' w0 w' :=
 ⟨m.os.trans m0.os,m.tape.trans m0.tape,m.output.trans m0.output,Nat.le_trans m0.size m.size,
  fun b hb hn=>(m.block b (by have:=m0.size;omega) (fun e=>by
   rcases e with e | e
   ·rcases m0.foot b e with h | h
    ·exact hn h
    ·omega
   ·omega)).trans (m0.block b hb hn),
  fun b hb=>by
   rcases m.foot b (.inl hb) with e | e
   ·rcases e with e | e
    ·exact m0.foot b e
    ·exact .inr (by omega)
   ·exact .inr (Nat.le_trans m0.size e)⟩
theorem Jx {w0:World} {row:Option Nat} (m:Moved F F' w0 w) (hg:w.grownBy w' row) (hr:∀ b,row=some b→w0.heap.size≤b):Moved F F' w0 w' :=
 ⟨hg.os.trans m.os,hg.tape.trans m.tape,hg.output.trans m.output,Nat.le_trans m.size hg.size,fun b hb hn=>(hg.block b (by have:=m.size;omega) (fun e=>by have:=hr b e.symm;omega)).trans (m.block b hb hn),m.foot⟩
theorem ZX {w0:World} {x:Nat} (m:Moved F F' w0 w) (hx:w0.heap.size≤x) (i:Nat) (u:Value):Moved F F' w0 (w.setCell ⟨x,i,none⟩ u) :=
 ⟨m.os,m.tape,m.output,by simpa [World.setCell] using m.size,fun b hb hn=>(Below.heap_setCell w _ u b (fun e=>by subst e;exact absurd hb (by simpa using hx))).trans (m.block b hb hn),m.foot⟩
theorem zm {x i N:Nat} (hx:F x) (u:Value):Yl F N w (w.setCell ⟨x,i,none⟩ u):=⟨rfl,rfl,rfl,by simp [World.setCell],fun b _ hn=>Below.heap_setCell w _ u b (fun e=>hn (by subst e;exact hx))⟩
theorem OrcAt.set {g x i:Nat} {O:Orc} (h:OrcAt w g O F) (hx:¬F x) (u:Value):OrcAt (w.setCell ⟨x,i,none⟩ u) g O F :=
 h.keep (by simp [World.setCell]) fun b hb=>Below.heap_setCell w _ u b (fun e=>hx (by subst e;exact hb))
end
end Go.Proofs.Ytbiieaiahdihnaa
