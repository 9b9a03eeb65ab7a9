/- A part of the proof. No condition. -/
import Derived.Test.YtjipleoamlmkfaaGreatProg
import Derived.Test.YtjipleoamlmkfaaGreatPG23
import Derived.Test.YtjipleoamlmkfaaGreatPG17

set_option maxRecDepth 100000
set_option maxHeartbeats 8000000
set_option linter.unusedVariables false
set_option linter.unusedSimpArgs false
namespace Go.Proofs.YtjipleoamlmkfaaGreat
open Go.RowKit
def Xd (n:Nat) (f:Nat -> Value):Array Value:=((List.range n).map f).toArray
theorem rD {n k:Nat} (f:Nat -> Value) (h:k<n):(Xd n f)[k]?=some (f k):=by simp [Xd,h]
theorem sD {n:Nat} {f g:Nat -> Value} (h:∀ i,i<n -> f i=g i):Xd n f=Xd n g:=by
 unfold Xd
 congr 1
 exact List.map_congr_left fun i hi=>h i (List.mem_range.1 hi)
theorem TM {n k:Nat} (f:Nat -> Value) (v:Value):(Xd n f).setIfInBounds k v=Xd n (fun i=>if i=k then v else f i):=by
 apply Array.ext
 ·simp [Xd]
 ·intro i h1 h2
  simp [Xd] at h1 h2
  rw [Array.getElem_setIfInBounds (by simpa [Xd] using h1)]
  simp only [Xd];split
  ·subst_vars;simp
  ·rename_i Ka
   simp [show ¬i=k from fun e=>Ka e.symm]
theorem RI (n:Nat):madeCells (Value.slice none 0 0).cells (n*1)=Xd n fun _=>.slice none 0 0:=by
 apply Array.toList_inj.1
 rw [show (Value.slice none 0 0).cells=#[.slice none 0 0] from rfl,toList_madeCells_one]
 exact List.ext_getElem (by simp [Xd]) fun i h1 h2=>by simp [Xd]
theorem TI (n:Nat) (hn:n <= 1000000) (w:World) :
  (Instr.makeSlice 41 (.int .i64 n) (.int .i64 n)).run Tryz.prog w= .ok (.slice (some ⟨w.heap.size,0,none⟩) n n) (w.alloc (.cells (Xd n fun _=>.slice none 0 0) 28)):=by
 have:=vB (P:=Tryz.prog) Jo n (by omega) (by omega) w
 rw [RI] at this;exact this
theorem dC {p b:Nat} (hp:0<p) (l:List Nat):∀ i k,uh p b l i k<p
 | 0,_=>hp
 | i+1,k=>by
  simp only [uh,Pe];split
  ·exact Nat.mod_lt _ hp
  ·split
   ·exact Nat.mod_lt _ hp
   ·exact dC hp l i k
theorem WI {L:Va} (hp:0<L.p) (msg Hi:List Nat) (k:Nat):Nn L msg Hi k<L.p:=by
 unfold Nn JB;split
 ·exact Nat.mod_lt _ hp
 ·exact dC hp _ _ _
theorem GI {p b:Nat} (hp:0<p) (l:List Nat):∀ k,iu p b l k<p
 | 0=>hp
 | _+1=>Nat.mod_lt _ hp
def Wx (L:Va) (m r:List (List Nat)) (k:Nat):List Nat:=(List.range (L.block+(r.getD k []).length)).map (Nn L (m.getD k []) (r.getD k []))
def Nw (L:Va) (m r:List (List Nat)) (n:Nat):List (List Nat):=(List.range n).map (Wx L m r)
theorem IQ (L:Va) (m r:List (List Nat)) (k:Nat):Nw L m r k++[Wx L m r k]=Nw L m r (k+1):=by simp [Nw,List.range_succ]
def NB (L:Va) (q:List Nat):List Nat:=(List.range (L.block+q.length)).map (uh L.p L.block q q.length)
def Ow (L:Va) (m r:List (List Nat)) (c l q:List Nat):List (List Nat):=Nw L m r m.length++[c,Rk L l,NB L q]
def CA (L:Va) (ps:List (List Nat)) (i j:Nat):Nat:=Zf L.p L.n L.n.log2 (ps.getD j []) (Yc L.p).1 i
theorem sN {N:Nat} {w w':World} {v v' x y z:Value} {cs:List Value} {l:List (List Nat)} {a b c:List Nat} (h:Ag N w v cs l) (hx:df N v.ownBlock w x a) (hy:df N v.ownBlock w y b) (hz:df N v.ownBlock w z c)
  (hg:w.grownBy w' v.ownBlock) (hv:v'.ownBlock=v.ownBlock \/ v'.ownBlock=some w.heap.size):Ag N w' v' (cs++[x,y,z]) (l++[a,b,c]):=by
 have key:∀ {z:Value} {m:List Nat},df N v.ownBlock w z m -> df N v'.ownBlock w' z m:=fun {z m} hz u hu=>by
  refine hz u fun b h1 h2 h3=>?_
  refine (hu b h1 (by have:=hg.size;omega) ?_).trans (hg.block b h2 (fun e=>h3 e))
  rcases hv with e | e
  ·rw [e];exact h3
  ·rw [e];intro e2;have:=Option.some.inj e2;omega
 refine ⟨by simp [h.1],fun i h1 h2=>?_⟩
 by_cases hi:i<cs.length
 ·rw [List.getElem_append_left hi,List.getElem_append_left (by have:=h.1;omega)]
  exact key (h.2 i hi _)
 ·have e0:=h.1
  have h1':i<cs.length+3:=by simpa using h1
  rw [List.getElem_append_right (by omega),List.getElem_append_right (by omega)]
  have:i-cs.length=0 \/ i-cs.length=1 \/ i-cs.length=2:=by omega
  have e1:i-l.length=i-cs.length:=by omega
  simp only [e1];rcases this with e | e | e <;> simp only [e]
  ·exact key hx
  ·exact key hy
  ·exact key hz
theorem LR (w:World) (x y z:Value) (t:TypeId):Rd (w.alloc (.cells #[x,y,z] t)) 1 (some ⟨w.heap.size,0,none⟩) 3 [x,y,z]:=by
 refine ⟨rfl,fun _=>⟨_,rfl,fun j u hj=>?_⟩⟩
 rw [Kj,Nat.zero_add,(Blk.new w t #[x,y,z]).cell]
 simpa using hj
theorem SB {N g n:Nat} {gb:Option Nat} {w:World} {t:TypeId} {f:Nat -> Nat} (h:Blk w g t (Fa n f)) (hf:∀ i,i<n -> f i<18446744073709551616) (hn:n <= maxLen) (hN:N <= g) (hg:some g≠gb):df N gb w (.slice (some ⟨g,0,none⟩) n n) ((List.range n).map f):=by
 rw [Dq] at h;exact sS h (by simp) (fun x hx=>by
  obtain ⟨i,hi,rfl⟩:=List.mem_map.1 hx;exact hf i (List.mem_range.1 hi)) hn hN hg
theorem tI {L:Va} (h:Vc L):Ss L.p L.n /\ L.n=2^L.n.log2:=by
 obtain ⟨j,hj⟩:=h.n;refine ⟨⟨by have:=h.nk;have:=h.k;have:=h.b1;omega,by have:=h.n2;omega,⟨j,hj⟩,h.nd⟩,?_⟩
 rw [hj,Nat.log2_two_pow]
theorem QM {p:Nat} (hp:0<p):∀ (j:Nat) (a:Nat -> Nat) (w k:Nat),(∀ i,a i<p) -> bh p j a w k<p
 | 0,_,_,k,h=>h k
 | j+1,a,w,k,_=>by
  simp only [bh];split <;> exact Nat.mod_lt _ hp
theorem mG {p n:Nat} (hp:0<p) (l:List Nat) (s:Nat):∀ i k,Ck p n l s i k<p
 | 0,_=>hp
 | i+1,k=>by
  simp only [Ck,Pe];split
  ·exact Nat.mod_lt _ hp
  ·exact mG hp l s i k
theorem DM {p:Nat} (hp:0<p) (n j:Nat) (l:List Nat) (s k:Nat):Zf p n j l s k<p:=QM hp _ _ _ _ (mG hp _ _ _)
theorem oN {p:Nat} (h:Db p=true):(Yc p).1%p≠0:=by
 rcases Hw h with rfl | rfl | rfl | rfl | rfl | rfl | rfl <;> decide
theorem JQ (L:Va) (m r:List (List Nat)) (c l q:List Nat):(Ow L m r c l q).length=m.length+3:=by simp [Ow,Nw]
theorem KQ {L:Va} {m r:List (List Nat)} {c l q:List Nat} (hb:L.block <= 256) (hr:∀ x∈r,x.length <= 2000) (h1:c.length <= 2000) (h2:l.length <= 2000) (h3:q.length <= 2000):∀ x∈Ow L m r c l q,x.length <= 8192:=by
 intro x hx;unfold Ow at hx;rcases List.mem_append.1 hx with hx | hx
 ·obtain ⟨k,-,rfl⟩:=List.mem_map.1 hx
  simp only [Wx,List.length_map,List.length_range];have:(r.getD k []).length <= 2000:=by
   rw [List.getD_eq_getElem?_getD];cases h:r[k]? with
   | none=>simp
   | some y=>exact hr y (List.mem_of_getElem? h)
  omega
 ·simp at hx
  rcases hx with rfl | rfl | rfl
  ·omega
  ·simp [Rk];omega
  ·simp [NB];omega
end Go.Proofs.YtjipleoamlmkfaaGreat
