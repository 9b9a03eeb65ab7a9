/- A part of the proof. No condition. -/
import Derived.Test.YtbiieaiahdihnaaProg
import Derived.Test.YtbiieaiahdihnaaOP20
import Derived.Test.YtbiieaiahdihnaaOP14

namespace Go.Proofs.Ytbiieaiahdihnaa
open Go.RowKit Go.Maps
def KRd (K:Nat→Prop) (w:World) (v:Value) (l:List Nat):Prop:=∀ u:World,(∀ b,K b→b<w.heap.size→u.heap[b]?=w.heap[b]?)→RWd u [v] l
section
variable {K K' F F' F'':Nat→Prop} {w w' w'' u:World} {v:Value} {l:List Nat}
theorem Zq (h:KRd K w v l):RWd w [v] l:=h w fun _ _ _=>rfl
theorem Ya (h:KRd K w v l) (hs:w.heap.size≤w'.heap.size) (hw:∀ b,K b→b<w.heap.size→w'.heap[b]?=w.heap[b]?):KRd K w' v l :=
 fun u hu=>h u fun b hb hl=>(hu b hb (by omega)).trans (hw b hb hl)
theorem Yx (h:KRd K w v l) (hk:∀ b,K b→K' b):KRd K' w v l:=fun u hu=>h u fun b hb hl=>hu b (hk b hb) hl
theorem ZF (h:KRd K w v l) (hb:Below w.heap.size w w'):KRd K w' v l:=Ya h hb.size fun b _ hl=>hb.block b hl
theorem G2 {w0:World} (h:RWd w0 [v] l) (hb:Below w0.heap.size w0 w):KRd (fun b=>b<w0.heap.size) w v l:=fun u hu=>by
 have h2:=Yc _ _ _ _ hb h
 exact rwd_agree0 h fun b hl=>(hu b hl (by have:=hb.size;omega)).trans (hb.block b hl)
where
 rwd_agree0 {w u:World} {v:Value} {l:List Nat} (h:RWd w [v] l) (ha:∀ b,b<w.heap.size→u.heap[b]?=w.heap[b]?):RWd u [v] l:=by
  obtain ⟨A,n,c,h1,h2,h3,h4,h5⟩:=h
  refine ⟨A,n,c,h1,h2,h3,h4.keep fun p hp=>?_,h5⟩
  simp only [World.cell?,ha _ hp]
theorem ZE {base n size:Nat} {e:TypeId} {xs:List Value} (h:w.ownsRow base e size v n xs) (ha:∀ b,v.ownBlock=some b→u.heap[b]?=w.heap[b]?):u.ownsRow base e size v n xs:=by
 obtain ⟨h1,h2⟩:=h
 refine ⟨h1,?_⟩
 rcases h2 with h2 | ⟨g,cap,cur,hv,hgb,hh,r⟩
 ·exact Or.inl h2
 ·exact Or.inr ⟨g,cap,cur,hv,hgb,by rw [ha g (by rw [hv];rfl)];exact hh,r⟩
theorem X6 {base n:Nat} {e:TypeId} (h:w.ownsRow base e 1 v n (U64 l)) (hl:∀ x∈l,x<18446744073709551616):KRd (fun b=>v.ownBlock=some b) w v l:=fun u hu=>by
 have ho:=ZE h fun b hb=>hu b hb (h.lt b hb).2
 obtain ⟨A,c,rfl,-⟩:=ZY ho
 exact yj ho hl
theorem Yj {g n:Nat} {t:TypeId} (h:Blk w g t (U64 l).toArray) (hn:l.length=n) (hl:∀ x∈l,x<18446744073709551616) (hm:n≤maxLen):KRd (fun b=>b=g) w (.slice (some ⟨g,0,none⟩) n n) l:=fun u hu=>by
 subst hn
 exact J3 (t:=t) ((hu g rfl h.lt).trans h) hl hm
theorem G0:KRd K w (.slice none 0 0) []:=fun u _=>⟨_,_,_,rfl,Nat.le_refl _,by simp [maxLen],Rd.nil _ _ _,fun x hx=>by cases hx⟩
theorem Yw (h:KRd K w v l):∃ A c,v= .slice A l.length c∧l.length≤c∧c≤maxLen∧(∀ x∈l,x<18446744073709551616):=by
 obtain ⟨A,n,c,h1,h2,h3,h4,h5⟩:=Zq h
 obtain ⟨rfl,h6,h7,h8,h9⟩:=ZO (w:=w) (A:=A) (n:=n) (c:=c) (l:=l) ⟨A,n,c,rfl,h2,h3,h4,h5⟩
 injection h1 with h1
 exact ⟨A,c,h1,h6,h7,h8⟩
structure Moved (F F':Nat→Prop) (w w':World):Prop where
 os:w'.os=w.os
 tape:w'.tape=w.tape
 output:w'.output=w.output
 size:w.heap.size≤w'.heap.size
 block:∀ b,b<w.heap.size→¬F b→w'.heap[b]?=w.heap[b]?
 foot:∀ b,F' b→F b∨w.heap.size≤b
theorem Moved.refl:Moved F F w w:=⟨rfl,rfl,rfl,Nat.le_refl _,fun _ _ _=>rfl,fun _ h=>.inl h⟩
theorem Moved.trans (h:Moved F F' w w') (k:Moved F' F'' w' w''):Moved F F'' w w'' :=
 ⟨k.os.trans h.os,k.tape.trans h.tape,k.output.trans h.output,Nat.le_trans h.size k.size,fun b hb hn=>(k.block b (by have:=h.size;omega) (fun hf=>by rcases h.foot b hf with e | e;exact hn e;omega)).trans (h.block b hb hn),
  fun b hb=>by
   rcases k.foot b hb with e | e
   ·exact h.foot b e
   ·exact .inr (Nat.le_trans h.size e)⟩
theorem Zh (h:Below w.heap.size w w'):Moved F F w w':=⟨h.os,h.tape,h.output,h.size,fun b hb _=>h.block b hb,fun _ h=>.inl h⟩
theorem YK {row:Option Nat} (h:w.grownBy w' row) (hr:∀ b,row=some b→F b):Moved F F w w':=⟨h.os,h.tape,h.output,h.size,fun b hb hn=>h.block b hb (fun e=>hn (hr b e.symm)),fun _ h=>.inl h⟩
theorem Ge (h:Moved F F' w w') (hf:∀ b,F'' b→F' b∨w.heap.size≤b):Moved F F'' w w':=⟨h.os,h.tape,h.output,h.size,h.block,fun b hb=>by
 rcases hf b hb with e | e
 ·exact h.foot b e
 ·exact .inr e⟩
theorem ZZ (h:Moved F F' w w'):Moved F F' w w'.drew:=⟨h.os,h.tape,h.output,h.size,h.block,h.foot⟩
theorem Zn (h:Moved F F' w w') {b:Nat} (hb:b<w.heap.size) (hn:¬F b):¬F' b:=fun hf=>by
 rcases h.foot b hf with e | e
 ·exact hn e
 ·omega
theorem Blk.moved {g:Nat} {t:TypeId} {cs:Array Value} (h:Blk w g t cs) (m:Moved F F' w w') (hg:¬F g):Blk w' g t cs:=(m.block g h.lt hg).trans h
theorem YU {base n size:Nat} {e:TypeId} {xs:List Value} (h:w.ownsRow base e size v n xs) (m:Moved F F' w w') (hv:∀ b,v.ownBlock=some b→¬F b):w'.ownsRow base e size v n xs :=
 ZE h fun b hb=>m.block b (h.lt b hb).2 (hv b hb)
theorem zu (h:KRd K w v l) (m:Moved F F' w w') (hK:∀ b,K b→¬F b):KRd K w' v l:=Ya h m.size fun b hb hl=>m.block b hl (hK b hb)
theorem Yf {w0:World} (h:Below w0.heap.size w0 w) (m:Moved F F' w w') (hF:∀ b,F b→w0.heap.size≤b):Below w0.heap.size w0 w' :=
 h.trans ⟨m.os,m.tape,m.output,m.size,fun b hb=>m.block b (by have:=h.size;omega) (fun hf=>by have:=hF b hf;omega)⟩
theorem Uy {N:Nat} (m:Moved F F' w w') (hF:∀ b,F b→N≤b) (hN:N≤w.heap.size):∀ b,F' b→N≤b:=fun b hb=>by
 rcases m.foot b hb with e | e
 ·exact hF b e
 ·omega
end
def Yl (F:Nat→Prop) (N:Nat) (w w':World):Prop:=w'.os=w.os∧w'.tape=w.tape∧w'.output=w.output∧w.heap.size≤w'.heap.size∧∀ b,b<N→¬F b→w'.heap[b]?=w.heap[b]?
theorem Zb (F:Nat→Prop) (N:Nat):ZI (Yl F N):=⟨fun _=>⟨rfl,rfl,rfl,Nat.le_refl _,fun _ _ _=>rfl⟩,fun _ _ _ h k=>⟨k.1.trans h.1,k.2.1.trans h.2.1,k.2.2.1.trans h.2.2.1,Nat.le_trans h.2.2.2.1 k.2.2.2.1,fun b h1 h2=>(k.2.2.2.2 b h1 h2).trans (h.2.2.2.2 b h1 h2)⟩⟩
theorem Zx {F:Nat→Prop} {N:Nat} {w w':World} (h:Yl F N w.drew w'):∀ b o,b<N→¬F b→w'.cell? ⟨b,o,none⟩=w.cell? ⟨b,o,none⟩:=fun b o hb hne=>by
 have:=h.2.2.2.2 b hb hne
 simp only [World.cell?,this]
 rfl
theorem Zm {F:Nat→Prop} {N B:Nat} {w w':World} (h:Below B w w') (hN:N≤B):Yl F N w w':=⟨h.os,h.tape,h.output,h.size,fun b hb _=>h.block b (by omega)⟩
theorem YL {F F' F'':Nat→Prop} {N:Nat} {w w':World} (h:Moved F' F'' w w') (hN:N≤w.heap.size) (hf:∀ b,b<N→F' b→F b):Yl F N w w':=⟨h.os,h.tape,h.output,h.size,fun b hb hn=>h.block b (by omega) (fun e=>hn (hf b hb e))⟩
theorem zi {F:Nat→Prop} {N:Nat} {w w':World} {row:Option Nat} (h:w.grownBy w' row) (hN:N≤w.heap.size) (hr:∀ b,row=some b→F b):Yl F N w w':=⟨h.os,h.tape,h.output,h.size,fun b hb hn=>h.block b (by omega) (fun e=>hn (hr b e.symm))⟩
def VT (E:Nat→Prop) (w:World) (cs:List Value) (qs:List Qn):Prop :=
 cs.length=qs.length*3∧∀ (i:Nat) (q:Qn),qs[i]?=some q→cs[i*3]?=some (.int .u64 (q.lab:Int))∧cs[i*3+2]?=some (.int .u64 (q.ans:Int))∧∃ s,cs[i*3+1]?=some s∧KRd E w s q.el
theorem YD {E:Nat→Prop} {w w':World} {cs:List Value} {qs:List Qn} (h:VT E w cs qs) (hs:w.heap.size≤w'.heap.size) (hw:∀ b,E b→b<w.heap.size→w'.heap[b]?=w.heap[b]?):VT E w' cs qs :=
 ⟨h.1,fun i q hq=>by
  obtain ⟨h1,h2,s,h3,h4⟩:=h.2 i q hq
  exact ⟨h1,h2,s,h3,Ya h4 hs hw⟩⟩
theorem GA {E E':Nat→Prop} {w:World} {cs:List Value} {qs:List Qn} (h:VT E w cs qs) (hE:∀ b,E b→E' b):VT E' w cs qs :=
 ⟨h.1,fun i q hq=>by
  obtain ⟨h1,h2,s,h3,h4⟩:=h.2 i q hq
  exact ⟨h1,h2,s,h3,Yx h4 hE⟩⟩
theorem zj (E:Nat→Prop) (w:World):VT E w [] []:=⟨rfl,fun i q h=>by simp at h⟩
theorem zE {E:Nat→Prop} {w:World} {cs:List Value} {qs:List Qn} {s:Value} {q:Qn} (h:VT E w cs qs) (hs:KRd E w s q.el):VT E w (cs++[.int .u64 (q.lab:Int),s, .int .u64 (q.ans:Int)]) (qs++[q]):=by
 refine ⟨by simp [h.1];omega,fun i x hx=>?_⟩
 by_cases hi:i<qs.length
 ·rw [List.getElem?_append_left hi] at hx
  obtain ⟨h1,h2,t,h3,h4⟩:=h.2 i x hx
  have hl:=h.1
  exact ⟨by rw [List.getElem?_append_left (by omega)];exact h1,by rw [List.getElem?_append_left (by omega)];exact h2,t,by rw [List.getElem?_append_left (by omega)];exact h3,h4⟩
 ·rw [List.getElem?_append_right (by omega)] at hx
  have hi2:i-qs.length=0:=by
   rcases Nat.eq_zero_or_pos (i-qs.length) with e | e
   ·exact e
   ·rw [List.getElem?_eq_none (by simp;omega)] at hx;cases hx
  rw [hi2] at hx
  injection hx with hx
  subst hx
  have hl:=h.1
  have e1:i=qs.length:=by omega
  subst e1
  refine ⟨?_,?_,s,?_,hs⟩
  ·rw [List.getElem?_append_right (by omega),hl,Nat.sub_self];rfl
  ·rw [List.getElem?_append_right (by omega),hl,show qs.length*3+2-qs.length*3=2 by omega];rfl
  ·rw [List.getElem?_append_right (by omega),hl,show qs.length*3+1-qs.length*3=1 by omega];rfl
end Go.Proofs.Ytbiieaiahdihnaa
