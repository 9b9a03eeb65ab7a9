/- A part of the proof. No condition. -/
import Derived.Test.YtgeofabpinfcmaaGreatProg
import Derived.Test.YtgeofabpinfcmaaGreatEZ13
import Derived.Test.YtgeofabpinfcmaaGreatEZ15

set_option maxRecDepth 100000
set_option maxHeartbeats 8000000
set_option linter.unusedVariables false
set_option linter.unusedSimpArgs false
namespace Go.Proofs.YtgeofabpinfcmaaGreat
open Go.RowKit
def ag (n:Nat) (f:Nat -> Value):Array Value:=((List.range n).map f).toArray
theorem nK {n k:Nat} (f:Nat -> Value) (h:k<n):(ag n f)[k]?=some (f k):=by simp [ag,h]
theorem oK {n:Nat} {f g:Nat -> Value} (h:∀ i,i<n -> f i=g i):ag n f=ag n g:=by
 unfold ag
 congr 1
 exact List.map_congr_left fun i hi=>h i (List.mem_range.1 hi)
theorem xW {n k:Nat} (f:Nat -> Value) (v:Value):(ag n f).setIfInBounds k v=ag n (fun i=>if i=k then v else f i):=by
 apply Array.ext
 ·simp [ag]
 ·intro i h1 h2
  simp [ag] at h1 h2
  rw [Array.getElem_setIfInBounds (by simpa [ag] using h1)]
  simp only [ag];split
  ·subst_vars;simp
  ·rename_i Bb
   simp [show ¬i=k from fun e=>Bb e.symm]
theorem vQ (n:Nat):madeCells (Value.slice none 0 0).cells (n*1)=ag n fun _=>.slice none 0 0:=by
 apply Array.toList_inj.1
 rw [show (Value.slice none 0 0).cells=#[.slice none 0 0] from rfl,toList_madeCells_one]
 exact List.ext_getElem (by simp [ag]) fun i h1 h2=>by simp [ag]
theorem DL (n:Nat) (hn:n <= 1000000) (w:World) :
  (Instr.makeSlice 40 (.int .i64 n) (.int .i64 n)).run Tryz.prog w= .ok (.slice (some ⟨w.heap.size,0,none⟩) n n) (w.alloc (.cells (ag n fun _=>.slice none 0 0) 28)):=by
 have:=mk_n (P:=Tryz.prog) Cj n (by omega) (by omega) w
 rw [vQ] at this;exact this
theorem Mz {p b:Nat} (hp:0<p) (l:List Nat):∀ i k,pg p b l i k<p
 | 0,_=>hp
 | i+1,k=>by
  simp only [pg,ef];split
  ·exact Nat.mod_lt _ hp
  ·split
   ·exact Nat.mod_lt _ hp
   ·exact Mz hp l i k
theorem BQ {L:Ja} (hp:0<L.p) (msg masks:List Nat) (k:Nat):oq L msg masks k<L.p:=by
 unfold oq Dz;split
 ·exact Nat.mod_lt _ hp
 ·exact Mz hp _ _ _
theorem bE {p b:Nat} (hp:0<p) (l:List Nat):∀ k,Ol p b l k<p
 | 0=>hp
 | _+1=>Nat.mod_lt _ hp
def Cx (L:Ja) (m r:List (List Nat)) (k:Nat):List Nat:=(List.range (L.block+(r.getD k []).length)).map (oq L (m.getD k []) (r.getD k []))
def dp (L:Ja) (m r:List (List Nat)) (n:Nat):List (List Nat):=(List.range n).map (Cx L m r)
theorem TY (L:Ja) (m r:List (List Nat)) (k:Nat):dp L m r k++[Cx L m r k]=dp L m r (k+1):=by simp [dp,List.range_succ]
def ZF (L:Ja) (q:List Nat):List Nat:=(List.range (L.block+q.length)).map (pg L.p L.block q q.length)
def Ge (L:Ja) (m r:List (List Nat)) (c l q:List Nat):List (List Nat):=dp L m r m.length++[c,Bd L l,ZF L q]
def Bg (L:Ja) (ps:List (List Nat)) (i j:Nat):Nat:=Fi L.p L.n L.n.log2 (ps.getD j []) (tb L.p).1 i
theorem EP {N:Nat} {w w':World} {v v' x y z:Value} {cs:List Value} {l:List (List Nat)} {a b c:List Nat} (h:Rf N w v cs l) (hx:Jc N v.ownBlock w x a) (hy:Jc N v.ownBlock w y b) (hz:Jc N v.ownBlock w z c)
  (hg:w.grownBy w' v.ownBlock) (hv:v'.ownBlock=v.ownBlock \/ v'.ownBlock=some w.heap.size):Rf N w' v' (cs++[x,y,z]) (l++[a,b,c]):=by
 have key:∀ {z:Value} {m:List Nat},Jc N v.ownBlock w z m -> Jc N v'.ownBlock w' z m:=fun {z m} hz u hu=>by
  refine hz u fun b h1 h2 h3=>?_
  refine (hu b h1 (by have:=hg.size;omega) ?_).trans (hg.block b h2 (fun e=>h3 e))
  rcases hv with e | e
  ·rw [e];exact h3
  ·rw [e];intro e2;have:=Option.some.inj e2;omega
 refine ⟨by simp [h.1],fun i h1 h2=>?_⟩
 by_cases hi:i<cs.length
 ·rw [List.getElem_append_left hi,List.getElem_append_left (by have:=h.1;omega)]
  exact key (h.2 i hi _)
 ·have e0:=h.1
  have Uq:i<cs.length+3:=by simpa using h1
  rw [List.getElem_append_right (by omega),List.getElem_append_right (by omega)]
  have:i-cs.length=0 \/ i-cs.length=1 \/ i-cs.length=2:=by omega
  have e1:i-l.length=i-cs.length:=by omega
  simp only [e1];rcases this with e | e | e <;> simp only [e]
  ·exact key hx
  ·exact key hy
  ·exact key hz
theorem ES (w:World) (x y z:Value) (t:TypeId):Rd (w.alloc (.cells #[x,y,z] t)) 1 (some ⟨w.heap.size,0,none⟩) 3 [x,y,z]:=by
 refine ⟨rfl,fun _=>⟨_,rfl,fun j u hj=>?_⟩⟩
 rw [Ep,Nat.zero_add,(Blk.new w t #[x,y,z]).cell]
 simpa using hj
theorem aD {N g n:Nat} {gb:Option Nat} {w:World} {t:TypeId} {f:Nat -> Nat} (h:Blk w g t (Ha n f)) (hf:∀ i,i<n -> f i<18446744073709551616) (hn:n <= maxLen) (hN:N <= g) (hg:some g≠gb):Jc N gb w (.slice (some ⟨g,0,none⟩) n n) ((List.range n).map f):=by
 rw [Ms] at h;exact Q3 h (by simp) (fun x hx=>by
  obtain ⟨i,hi,rfl⟩:=List.mem_map.1 hx;exact hf i (List.mem_range.1 hi)) hn hN hg
theorem nx {L:Ja} (h:Db L):Vg L.p L.n /\ L.n=2^L.n.log2:=by
 obtain ⟨j,hj⟩:=h.n;refine ⟨⟨by have:=h.nk;have:=h.k;have:=h.b1;omega,by have:=h.n2;omega,⟨j,hj⟩,h.nd⟩,?_⟩
 rw [hj,Nat.log2_two_pow]
theorem wW {p:Nat} (hp:0<p):∀ (j:Nat) (a:Nat -> Nat) (w k:Nat),(∀ i,a i<p) -> Gi p j a w k<p
 | 0,_,_,k,h=>h k
 | j+1,a,w,k,_=>by
  simp only [Gi];split <;> exact Nat.mod_lt _ hp
theorem YN {p n:Nat} (hp:0<p) (l:List Nat) (s:Nat):∀ i k,Bj p n l s i k<p
 | 0,_=>hp
 | i+1,k=>by
  simp only [Bj,ef];split
  ·exact Nat.mod_lt _ hp
  ·exact YN hp l s i k
theorem eF {p:Nat} (hp:0<p) (n j:Nat) (l:List Nat) (s k:Nat):Fi p n j l s k<p:=wW hp _ _ _ _ (YN hp _ _ _)
theorem vK {p:Nat} (h:ab p=true):(tb p).1%p≠0:=by
 rcases pq h with rfl | rfl | rfl | rfl | rfl | rfl | rfl <;> decide
theorem UY (L:Ja) (m r:List (List Nat)) (c l q:List Nat):(Ge L m r c l q).length=m.length+3:=by simp [Ge,dp]
theorem VY {L:Ja} {m r:List (List Nat)} {c l q:List Nat} (hb:L.block <= 256) (hr:∀ x∈r,x.length <= 2000) (h1:c.length <= 2000) (h2:l.length <= 2000) (h3:q.length <= 2000):∀ x∈Ge L m r c l q,x.length <= 8192:=by
 intro x hx;unfold Ge at hx;rcases List.mem_append.1 hx with hx | hx
 ·obtain ⟨k,-,rfl⟩:=List.mem_map.1 hx
  simp only [Cx,List.length_map,List.length_range];have:(r.getD k []).length <= 2000:=by
   rw [List.getD_eq_getElem?_getD];cases h:r[k]? with
   | none=>simp
   | some y=>exact hr y (List.mem_of_getElem? h)
  omega
 ·simp at hx
  rcases hx with rfl | rfl | rfl
  ·omega
  ·simp [Bd];omega
  ·simp [ZF];omega
end Go.Proofs.YtgeofabpinfcmaaGreat
