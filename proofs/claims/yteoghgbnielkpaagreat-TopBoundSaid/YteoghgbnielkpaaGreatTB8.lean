/- A part of the proof. No condition. -/
import Derived.Test.YteoghgbnielkpaaGreatTB5
import Derived.Test.YteoghgbnielkpaaGreatTB6
import Derived.Test.YteoghgbnielkpaaGreatTB7
import Derived.ChangeKeysEq

set_option maxRecDepth 100000
set_option maxHeartbeats 8000000
set_option linter.unusedVariables false
set_option linter.unusedSimpArgs false
namespace Go.Proofs.YteoghgbnielkpaaGreat
open Go.RowKit
open Tryz
open Go renaming World->vw, Value->vx, Addr->vy, TypeId->vz, Calls->vB
open Go.Value renaming int->vd, slice->ve, agg->vf
open Go.IntKind renaming u64->vn, i64->vq
open Go.Ending renaming returned->vl
open Go.RowKit renaming Below->vA
open Go.Act renaming put->vG
open Option renaming none->vD, some->vE
def Pj (s c k:Nat):List (List Nat):=(List.range k).map fun i=>[s,c+i]
theorem JV (s c k:Nat):(Pj s c k).length=k:=by simp [Pj]
theorem yT (O:Da) (s c i:Nat):dc O 19 (Pj s c (i+1))=ld (dc O 19 (Pj s c i)) 19 [s,c+i]:=by
 unfold dc Pj;rw [List.range_succ,List.map_append,List.foldl_append]
 rfl
def xp (O:Da) (s c i:Nat):Nat:=De (dc O 19 (Pj s c i)) 19 [s,c+i]
def YG (l:List Nat) (i j:Nat):List Nat:=(l.set i (l.getD j 0)).set j (l.getD i 0)
def Vj (f:Nat -> Nat) (n:Nat):Nat -> List Nat
 | 0=>List.range n
 | i+1=>YG (Vj f n i) i (i+f i%(n-i))
theorem zFr (l:List Nat) (i j:Nat):(YG l i j).length=l.length:=by simp [YG]
theorem sN (f:Nat -> Nat) (n:Nat):∀ i,(Vj f n i).length=n
 | 0=>by simp [Vj]
 | i+1=>by rw [Vj,zFr,sN f n i]
theorem zJg {l:List Nat} {i j x:Nat} (hi:i<l.length) (hj:j<l.length) (h:x∈YG l i j):x∈l:=by
 unfold YG at h;have hg:∀ k,k<l.length -> l.getD k 0∈l:=fun k hk=>by rw [Fb,Qb hk];exact He hk
 rcases List.mem_or_eq_of_mem_set h with h | rfl
 ·rcases List.mem_or_eq_of_mem_set h with h | rfl
  ·exact h
  ·exact hg j hj
 ·exact hg i hi
theorem zAf (f:Nat -> Nat) (n:Nat):∀ i,i <= n -> ∀ x∈Vj f n i,x<n
 | 0,_,x,hx=>by simpa [Vj] using hx
 | i+1,h,x,hx=>by
  rw [Vj] at hx;refine zAf f n i zO x (zJg (by rw [sN];omega) (by rw [sN];have:=mc (f i) (show 0<n-i by omega);omega) hx)
def ox (O:Da) (s c n count:Nat):List Nat:=((Vj (xp O s c) n count).take count).mergeSort fun x y=>decide (x <= y)
theorem S6 (O:Da) (s c n count:Nat) (h:count <= n):(ox O s c n count).length=count:=by
 unfold ox;rw [List.length_mergeSort,Br,sN,Nat.min_eq_left h]
theorem zAg (O:Da) (s c n count:Nat) (h:count <= n):∀ x∈ox O s c n count,x<n:=fun x hx=>by
 unfold ox at hx;rw [List.mem_mergeSort] at hx;exact zAf _ n count h x (List.mem_of_mem_take hx)
def sS (p b i:Nat):Nat:=if i=0 then p-1 else if i=b then 1 else 0
def Ss (p b:Nat):List Nat:=(List.range (b+1)).map (sS p b)
def ph (n:Nat) (f:Nat -> vx):Array vx:=((List.range n).map f).toArray
theorem oU {n k:Nat} (f:Nat -> vx) (h:k<n):(ph n f)[k]?=vE (f k):=by simp [ph,h]
theorem pU {n:Nat} {f g:Nat -> vx} (h:∀ i,i<n -> f i=g i):ph n f=ph n g:=by
 unfold ph
 congr 1
 exact Qz fun i hi=>h i (pj.1 hi)
theorem zEk {n k:Nat} (f:Nat -> vx) (v:vx):(ph n f).setIfInBounds k v=ph n (fun i=>if i=k then v else f i):=by
 apply Array.ext
 ·simp [ph]
 ·intro i h1 h2
  simp [ph] at h1 h2
  rw [Array.getElem_setIfInBounds (by simpa [ph] using h1)]
  simp only [ph];split
  ·subst_vars;simp
  ·rename_i Sa
   simp [show ¬i=k from fun e=>Sa e.symm]
theorem N7 (n:Nat):madeCells (ve vD 0 0).cells (n*1)=ph n fun _=>ve vD 0 0:=by
 apply Array.toList_inj.1
 rw [show (ve vD 0 0).cells=#[ve vD 0 0] from rfl,toList_madeCells_one]
 exact Kv (by simp [ph]) fun i h1 h2=>by simp [ph]
theorem R7 (n:Nat) (hn:n <= 1000000) (w:vw) :
  (Instr.makeSlice 39 (vd vq n) (vd vq n)).run prog w= .ok (ve (vE ⟨w.1.size,0,vD⟩) n n) (w.alloc (.cells (ph n fun _=>ve vD 0 0) 28)):=by
 have:=PQ (P:=prog) fA n zO zO w;rw [N7] at this;exact this
theorem qE {p b:Nat} (hp:0<p) (l:List Nat):∀ i k,Hg p b l i k<p
 | 0,_=>hp
 | i+1,k=>by
  simp only [Hg,Cf];split
  ·exact mc _ hp
  ·split
   ·exact mc _ hp
   ·exact qE hp l i k
theorem U7 {L:Na} (hp:0<L.p) (msg Bf:List Nat) (k:Nat):uv L msg Bf k<L.p:=by
 unfold uv LG;split
 ·exact mc _ hp
 ·exact qE hp _ _ _
theorem uN {p b:Nat} (hp:0<p) (l:List Nat):∀ k,Xy p b l k<p
 | 0=>hp
 | _+1=>mc _ hp
def MG (L:Na) (m r:List (List Nat)) (k:Nat):List Nat:=(List.range (L.block+(r.getD k []).length)).map (uv L (m.getD k []) (r.getD k []))
def jz (L:Na) (m r:List (List Nat)) (n:Nat):List (List Nat):=(List.range n).map (MG L m r)
theorem zHr (L:Na) (m r:List (List Nat)) (k:Nat):jz L m r k++[MG L m r k]=jz L m r (k+1):=by simp [jz,List.range_succ]
def UN (L:Na) (q:List Nat):List Nat:=(List.range (L.block+q.length)).map (Hg L.p L.block q q.length)
def Wj (L:Na) (m r:List (List Nat)) (c l q:List Nat):List (List Nat):=jz L m r m.length++[c,Fg L l,UN L q]
def Ct (L:Na) (ps:List (List Nat)) (i j:Nat):Nat:=rk L.p L.n L.n.log2 (ps.getD j []) (Mb L.p).1 i
theorem zEM {N:Nat} {w w':vw} {v v' x y z:vx} {cs:List vx} {l:List (List Nat)} {a b c:List Nat} (h:Us N w v cs l) (hx:sj N v.ownBlock w x a) (hy:sj N v.ownBlock w y b) (hz:sj N v.ownBlock w z c)
  (hg:w.grownBy w' v.ownBlock) (hv:v'.ownBlock=v.ownBlock \/ v'.ownBlock=vE w.1.size):Us N w' v' (cs++[x,y,z]) (l++[a,b,c]):=by
 have key:∀ {z:vx} {m:List Nat},sj N v.ownBlock w z m -> sj N v'.ownBlock w' z m:=fun {z m} hz u hu=>by
  refine hz u fun b h1 h2 h3=>?_
  refine (hu b h1 (zQ hg.size) ?_).trans (hg.block b h2 (fun e=>h3 e))
  rcases hv with e | e
  ·rw [e];exact h3
  ·rw [e];intro e2;have:=Ya e2;omega
 refine ⟨by simp [h.1],fun i h1 h2=>?_⟩
 by_cases hi:i<cs.length
 ·rw [zr hi,zr (zQ h.1)]
  exact key (h.2 i hi _)
 ·have e0:=h.1
  have zC:i<cs.length+3:=by simpa using h1
  rw [Vx zO,Vx zO];have:i-cs.length=0 \/ i-cs.length=1 \/ i-cs.length=2:=by omega
  have e1:i-l.length=i-cs.length:=by omega
  simp only [e1];rcases this with e | e | e <;> simp only [e]
  ·exact key hx
  ·exact key hy
  ·exact key hz
theorem zId (w:vw) (x y z:vx) (t:vz):Rd (w.alloc (.cells #[x,y,z] t)) 1 (vE ⟨w.1.size,0,vD⟩) 3 [x,y,z]:=by
 refine ⟨rfl,fun _=>⟨_,rfl,fun j u hj=>?_⟩⟩
 rw [zm,Nj,(Blk.new w t #[x,y,z]).cell]
 simpa using hj
theorem MR {N g n:Nat} {gb:Option Nat} {w:vw} {t:vz} {f:Nat -> Nat} (h:Blk w g t (Qa n f)) (hf:∀ i,i<n -> f i<18446744073709551616) (hn:n <= maxLen) (hN:N <= g) (hg:vE g≠gb):sj N gb w (ve (vE ⟨g,0,vD⟩) n n) ((List.range n).map f):=by
 rw [Yv] at h;exact iX h zS (fun x hx=>by
  obtain ⟨i,hi,rfl⟩:=Od.1 hx;exact hf i (pj.1 hi)) hn hN hg
theorem CQ {L:Na} (h:Nb L):Tk L.p L.n /\ L.n=2^L.n.log2:=by
 obtain ⟨j,hj⟩:=h.n;refine ⟨⟨by have:=h.nk;have:=h.k;have:=h.b1;omega,by have:=h.n2;omega,⟨j,hj⟩,h.nd⟩,?_⟩
 rw [hj,Sz]
theorem zEi {p:Nat} (hp:0<p):∀ (j:Nat) (a:Nat -> Nat) (w k:Nat),(∀ i,a i<p) -> tk p j a w k<p
 | 0,_,_,k,h=>h k
 | j+1,a,w,k,_=>by
  simp only [tk];split <;> exact mc _ hp
theorem BY {p n:Nat} (hp:0<p) (l:List Nat) (s:Nat):∀ i k,ym p n l s i k<p
 | 0,_=>hp
 | i+1,k=>by
  simp only [ym,Cf];split
  ·exact mc _ hp
  ·exact BY hp l s i k
theorem xP {p:Nat} (hp:0<p) (n j:Nat) (l:List Nat) (s k:Nat):rk p n j l s k<p:=zEi hp _ _ _ _ (BY hp _ _ _)
theorem I4 {p:Nat} (h:Jb p=true):(Mb p).1%p≠0:=by
 rcases cu h with rfl | rfl | rfl | rfl | rfl | rfl | rfl <;> decide
theorem zHs (L:Na) (m r:List (List Nat)) (c l q:List Nat):(Wj L m r c l q).length=m.length+3:=by simp [Wj,jz]
theorem zHt {L:Na} {m r:List (List Nat)} {c l q:List Nat} (hb:L.block <= 256) (hr:∀ x∈r,x.length <= 2000) (h1:c.length <= 2000) (h2:l.length <= 2000) (h3:q.length <= 2000):∀ x∈Wj L m r c l q,x.length <= 8192:=by
 intro x hx;unfold Wj at hx;rcases jq.1 hx with hx | hx
 ·obtain ⟨k,-,rfl⟩:=Od.1 hx
  simp only [MG,Zm,Yo];have:(r.getD k []).length <= 2000:=by
   rw [Fb];cases h:r[k]? with
   | none=>simp
   | some y=>exact hr y (List.mem_of_getElem? h)
  omega
 ·simp at hx
  rcases hx with rfl | rfl | rfl
  ·omega
  ·simp [Fg];omega
  ·simp [UN];omega
def cO (L:Na) (msg Bf:List Nat):List Nat:=iz (Cr L.p ((List.range msg.length).map (oQ L.p msg 1)) (zl L.p (Ss L.p L.block) Bf)) L.k
def qx (L:Na) (q:List Nat):List Nat:=iz (zl L.p (Ss L.p L.block) q) (2*L.k-1)
theorem sY (p b:Nat):(Ss p b).length=b+1:=by simp [Ss]
def Df {α:Type} (a b c d:α) (i:Nat):α:=if i=0 then a else if i=1 then b else if i=2 then c else d
theorem zAY {α:Type} (a b c d:α) {i:Nat} (h:i<4):(#[a,b,c,d]:Array α)[i]?=vE (Df a b c d i):=by
 rcases (show i=0 \/ i=1 \/ i=2 \/ i=3 by omega) with rfl | rfl | rfl | rfl <;> rfl
def Ir (B:Nat) (v:List Nat) (k:Nat):List Nat:=(List.range B).map fun j=>v.getD (k*B+j) 0
def Dt (B:Nat) (v:List Nat) (n:Nat):List (List Nat):=(List.range n).map (Ir B v)
def Nl (B:Nat) (l:Nat -> List Nat) (ps:Nat -> Nat) (i:Nat):List (List Nat):=(List.range i).flatMap fun i=>Dt B (l i) (ps i)
def rq (B:Nat) (l:Nat -> List Nat) (ps:Nat -> Nat):List (List Nat):=Nl B l ps 4
theorem vM (B:Nat) (l:Nat -> List Nat) (ps:Nat -> Nat) (i:Nat):Nl B l ps (i+1)=Nl B l ps i++Dt B (l i) (ps i):=by
 rw [Nl,List.range_succ,List.flatMap_append];simp [Nl]
theorem zDs (B:Nat) (v:List Nat) (k:Nat):Dt B v (k+1)=Dt B v k++[Ir B v k]:=by simp [Dt,List.range_succ]
theorem zE1:(prog.info? 206).map (fun i=>(i.zero,i.size,i.bytes))=vE (vE (ve vD 0 0),1,24):=by kernel_rfl
theorem zCq {w:vw}:((isAgg 206).run prog w)= .ok false w:=by simp [isAgg,run_underlying underlying206]
theorem zIW {w:vw}:((sizeOf 206).run prog w)= .ok 1 w:=by
 obtain ⟨i0,hi,Yh,ud,Ve⟩:=info_parts zE1;simp [sizeOf,typeInfo,hi,ud]
theorem nQ {w:vw} {x y z:vx} {k:Nat} (h:k<3):(Instr.index 220 (vf #[x,y,z]) (vd vq k)).run prog w= .ok (if k=0 then x else if k=1 then y else z) w :=
 LR (i:=k) underlying220 zCq zIW h (by
  rcases (show k=0 \/ k=1 \/ k=2 by omega) with rfl | rfl | rfl <;> rfl)
theorem eZ {V0:vx} {xs:Nat -> vx} {k:Nat} (h:k<3):(#[V0,xs 0,xs 1,xs 2]:Array vx)[k+1]?=vE (xs k):=by
 rcases (show k=0 \/ k=1 \/ k=2 by omega) with rfl | rfl | rfl <;> rfl
def Cv (xs:Nat -> vx) (k:Nat) (v:vx) (j:Nat):vx:=if j=k then v else xs j
theorem zCH {V0 v:vx} {xs:Nat -> vx} {k:Nat} (h:k<3):(#[V0,xs 0,xs 1,xs 2]:Array vx).setIfInBounds (k+1) v=#[V0,Cv xs k v 0,Cv xs k v 1,Cv xs k v 2]:=by
 rcases (show k=0 \/ k=1 \/ k=2 by omega) with rfl | rfl | rfl <;> rfl
theorem pZ {g N b:Nat} {w w':vw} {t:vz} {cs:Array vx} (k:Blk w b t cs) (h:So g N w w') (hb:b<N) (Sa:b≠g):Blk w' b t cs:=by
 unfold Blk at *;rw [h.2.2.2.2 b hb Sa];exact k
def Ec (r:Ua) (k:Nat):List (Int × Nat):=if k=0 then r.a else if k=1 then r.b else r.c
def qi (p:Nat) (rows:List Ua) (ws:List Nat) (k:Nat):List Nat:=rows.map fun r=>Dc p (Ec r k) ws
def Hk (L:Na) (rows:List Ua) (ws:List Nat) (pu:Nat):List (List Nat):=rq L.block (Df (ws.drop (1+pu)) (qi L.p rows ws 0) (qi L.p rows ws 1) (qi L.p rows ws 2)) (Df L.a L.b L.b L.b)
theorem zFu {p:Nat} (hp:0<p) (ws:List Nat) {s:Nat} (hs:s<p) (t:Int × Nat):Fs p ws s t<p:=by
 unfold Fs;split
 ·exact mc _ hp
 ·exact hs
theorem p7 {p:Nat} (hp:0<p) (l:List (Int × Nat)) (ws:List Nat):Dc p l ws<p:=by
 have key:∀ (l:List (Int × Nat)) (s:Nat),s<p -> l.foldl (Fs p ws) s<p:=fun l=>by
  induction l with
  | nil=>exact fun s hs=>hs
  | cons t l ih=>exact fun s hs=>ih _ (zFu hp ws hs t)
 exact key l 0 hp
theorem zDL (x:Nat) (r:List Nat) (m:Nat):Qa m (nI x r)=(Oa (re Bb x r m)).toArray:=by
 rw [Yv];unfold re
 congr 2
 exact Qz fun k _=>(qj (zI3 Bb 22 _ k zD)).symm
theorem O7 (n:Nat):madeCells (ve vD 0 0).cells (n*1)=Array.replicate n (ve vD 0 0):=by
 apply Array.toList_inj.1
 rw [show (ve vD 0 0).cells=#[ve vD 0 0] from rfl,toList_madeCells_one]
 simp
theorem pP (p x:Nat) (r:List Nat) (m:Nat):Qa m (oP p x r)=(Oa (re p x r m)).toArray:=Yv _ _
structure FBs (NF:Nat) (w:vw) (cs:Array vx) (q i:Nat) (r:Nat -> List Nat) (f:Nat -> Nat):Prop where
 at_:∀ k,k<i -> cs[k]?=vE (ve (vE ⟨f k,0,vD⟩) q q) /\ Blk w (f k) 22 (Oa (r k)).toArray /\ NF <= f k
 lt:∀ k m,k<m -> m<i -> f k<f m
theorem zEh (NF:Nat) (w:vw) (cs:Array vx) (q:Nat) (r:Nat -> List Nat) (f:Nat -> Nat):FBs NF w cs q 0 r f:=⟨fun k h=>zO,fun k m _ h=>zO⟩
theorem FBs.keep {NF:Nat} {w u:vw} {cs:Array vx} {q i:Nat} {r:Nat -> List Nat} {f:Nat -> Nat} (h:FBs NF w cs q i r f) (hw:∀ b,NF <= b -> b<w.1.size -> u.1[b]?=w.1[b]?):FBs NF u cs q i r f :=
 ⟨fun k hk=>⟨(h.at_ k hk).1,(hw _ (h.at_ k hk).2.2 (h.at_ k hk).2.1.lt).trans (h.at_ k hk).2.1,(h.at_ k hk).2.2⟩,h.lt⟩
theorem FBs.next {NF:Nat} {w:vw} {cs:Array vx} {q i g:Nat} {r:Nat -> List Nat} {f:Nat -> Nat} (h:FBs NF w cs q i r f) (hi:i<cs.size) (hg:∀ k,k<i -> f k<g) (hN:NF <= g) (kg:Blk w g 22 (Oa (r i)).toArray) :
  FBs NF w (cs.setIfInBounds i (ve (vE ⟨g,0,vD⟩) q q)) q (i+1) r (fun k=>if k=i then g else f k) where
 at_ k hk:=by
  by_cases e:k=i
  ·subst e
   rw [Ka rfl];exact ⟨by simp [hi],kg,hN⟩
  ·rw [ya e,Array.getElem?_setIfInBounds_ne (fun h=>e h.symm)]
   exact h.at_ k zO
 lt k m hk hm:=by
  rw [ya (by omega:¬k=i)]
  by_cases e:m=i
  ·rw [Ka e]
   exact hg k zO
  ·rw [ya e]
   exact h.lt k m hk zO
theorem FBs.rows {NF:Nat} {w:vw} {cs:Array vx} {q n g:Nat} {t:vz} {r:Nat -> List Nat} {f:Nat -> Nat} (h:FBs NF w cs q n r f) (hk:Blk w g t cs) (hr:∀ k,k<n -> (r k).length=q /\ ∀ x∈r k,x<18446744073709551616) (hq:q <= maxLen) (hm:n <= maxLen):Xg w [ve (vE ⟨g,0,vD⟩) n n] ((List.range n).map r) :=
 xU (N:=0) (gb:=vD) (fun k hk=>⟨_,(h.at_ k hk).1,iX (h.at_ k hk).2.1 (hr k hk).1 (hr k hk).2 hq (Kb _) (fun e=>by cases e)⟩) hk hm
structure CoB (N:Nat) (w:vw) (q:Nat) (cs:Array vx) (n:Nat) (r:Nat -> List Nat) (l1 l2 l3 l4:List Nat) (g0 g1 g2 g3 g4 NF:Nat) (f:Nat -> Nat):Prop where
 k0:Blk w g0 28 cs
 k1:Blk w g1 22 (Oa l1).toArray
 k2:Blk w g2 22 (Oa l2).toArray
 k3:Blk w g3 22 (Oa l3).toArray
 k4:Blk w g4 22 (Oa l4).toArray
 kr:FBs NF w cs q n r f
 ge:N <= g0 /\ N <= g1 /\ N <= g2 /\ N <= g3 /\ N <= g4
 lt:g0<NF /\ g1<NF /\ g2<NF /\ g3<NF /\ g4<NF
 nd:[g0,g1,g2,g3,g4].Nodup
theorem zFD (L:Na) (s:Nat) (w:vw) (hL:Nb L) (hs:s<18446744073709551616) :
  vB prog 103 #[vf (ib L),vd vn s] w fun e w'=>∃ cs g0 g1 g2 g3 g4 NF f,e=vl (vf #[ve (vE ⟨g0,0,vD⟩) (L.a+L.b+L.b+L.b) (L.a+L.b+L.b+L.b),ve (vE ⟨g1,0,vD⟩) L.k L.k,ve (vE ⟨g2,0,vD⟩) (L.k+L.block-2) (L.k+L.block-2),ve (vE ⟨g3,0,vD⟩) (L.block+2*L.queries-1) (L.block+2*L.queries-1),ve (vE ⟨g4,0,vD⟩) L.n L.n]) /\ CoB w.1.size w' L.queries cs (L.a+L.b+L.b+L.b) (fun k=>re L.p s [0,k] L.queries) (re L.p s [1] L.k) (re L.p s [2] (L.k+L.block-2)) (re L.p s [3] (L.block+2*L.queries-1)) (re Bb s [4] L.n) g0 g1 g2 g3 g4 NF f /\ vA w.1.size w w':=by
 have jf:=Rb hL.p;have HT:=zH (fun w=>GG L.p L.block L.queries L.k L.n L.secret L.rows L.a L.b L.b L.b w hL.a hL.b hL.b hL.b)
 have HC:=zH (fun w=>yZ L w hL)
 have hT4:L.a+L.b+L.b+L.b <= 400000:=by have:=hL.a;have:=hL.b;omega
 have Yu:=hL.q2;have q1:=hL.b1;have q2:=hL.b2;have q3:=hL.q1;have q5:=hL.k;have q6:=hL.n2;have u1:L.k <= 65536:=by omega
 have u2:L.k+L.block-2 <= 65536:=by omega
 have u3:L.block+2*L.queries-1 <= 65536:=by omega
 have u4:L.n <= 65536:=by omega
 have HS:=zH (fun r m g w kg hx hr hm=>zFE L s r m g w hL.p kg hx hr hm)
 have HD:=zH (fun r m g w kg hx hr hm=>O9 s r m g w kg hx hr hm)
 generalize L.a+L.b+L.b+L.b=T at *;generalize L.k+L.block-2=m2 at *;generalize L.block+2*L.queries-1=m3 at *;clear q1 q2 q3 q5 q6;unfold ib at *;go_enter func103,ntmps103
 go_upto_region 1 with fail
 obtain ⟨kl,kz,da,jb⟩:=Yg w 101 41 #[vd vn L.p,vd vq L.block,vd vq L.queries,vd vq L.k,vd vq L.n,vd vq L.secret,vd vq L.rows,vd vq L.a,vd vq L.b,vd vq L.b,vd vq L.b] #[ve vD 0 0,ve vD 0 0,ve vD 0 0,ve vD 0 0,ve vD 0 0];generalize (w.alloc _).alloc _=w2 at kl kz da jb |-;have cl:=kl.cell;go_wp2_with fail
 refine (HC.out _).mono ?_;rintro e w3 ⟨rfl,Ta⟩;replace kl:=ia kl Ta;replace kz:=ia kz Ta;have hsz3:w.1.size+1<w3.1.size:=by have:=Ta.size;omega
 replace da:=ma da Ta;clear cl Ta HC jb;go_upto_region 2 with fail
 have cl:=kl.cell;obtain ⟨kn,ja⟩:=zN w3 216 #[vd vq L.k,vd vq m2,vd vq m3];replace kl:=ia kl ja;replace kz:=ia kz ja;replace da:=ma da ja;have oV:w.1.size+1<w3.1.size /\ w3.1.size+1=(w3.alloc (.cells #[vd vq L.k,vd vq m2,vd vq m3] 216)).1.size:=⟨hsz3,zS⟩;clear ja cl hsz3;generalize w3.alloc _=w4 at kl kz kn da oV |-;generalize w3.1.size=gn at kn oV |-;obtain ⟨Xc,Dd⟩:=oV;have cl:=kl.cell;have cn:=kn.cell;have l1:w.1.size<w4.1.size:=by omega
 have l2:gn<w4.1.size:=by omega
 refine zB4 (Fx w4.1.size) [0,4,5,6,7,10,11,12,13,16,17,18,19,22,23,24] 14 zK zK ?_;refine zB8 (Be w4.1.size) ?_;intro Wc Ja ea
 repeat ((first | refine zB7 (Be w4.1.size) rfl rfl (fun _ _ _ h=>h) ?_ | (refine zB5 (v:=?_) (Be w4.1.size) rfl rfl (fun _ _ _ h=>h) ?_ ?_;rotate_left;(· (intro w' hR;(first | have qn:=wU ((Be w4.1.size).trans _ _ _ ea hR) | skip);go_simp;try with_reducible rfl))));refine zPU ?_)
 have Ma:=jg Ja;have pc:w4.1.size <= Wc.1.size:=Ma.size;refine zB6 (Be w4.1.size) [⟨1,[],[]⟩,⟨2,[1],[]⟩,⟨3,[2],[]⟩,⟨8,[],[]⟩,⟨9,[8],[8]⟩,⟨14,[],[]⟩,⟨15,[14],[14]⟩,⟨20,[],[]⟩,⟨21,[20],[20]⟩,⟨25,[],[]⟩,⟨26,[25],[25]⟩,⟨27,[3,9,15,21,26],[]⟩,⟨28,[],[]⟩] [(1,mq (fun _=>vd vq T) 1),(2,mq (fun _=>vd vq T) 2),(3,Ge 28 (fun _=>Array.replicate T (ve vD 0 0)) (Ed T) 3),(8,Ge 22 (fun _=>#[vd vn s,vd vn 1]) (Ed 2) 8),(9,Ge 22 (fun _=>(Oa (re L.p s [1] L.k)).toArray) (Ed L.k) 9),(14,Ge 22 (fun _=>#[vd vn s,vd vn 2]) (Ed 2) 14),(15,Ge 22 (fun _=>(Oa (re L.p s [2] m2)).toArray) (Ed m2) 15),(20,Ge 22 (fun _=>#[vd vn s,vd vn 3]) (Ed 2) 20),(21,Ge 22 (fun _=>(Oa (re L.p s [3] m3)).toArray) (Ed m3) 21),(25,Ge 22 (fun _=>#[vd vn s,vd vn 4]) (Ed 2) 25),(26,Ge 22 (fun _=>(Oa (re Bb s [4] L.n)).toArray) (Ed L.n) 26),(27,mq (fun vs=>vf #[vs 3,vs 9,vs 15,vs 21,vs 26]) 27),(28,Ge 41 (fun _=>#[ve vD 0 0,ve vD 0 0,ve vD 0 0,ve vD 0 0,ve vD 0 0]) mkP 28)] [(vE 11,1),(vE 12,2),(vE 13,3),(vE 18,8),(vE 19,9),(vE 24,14),(vE 25,15),(vE 30,20),(vE 31,21),(vE 35,25),(vE 36,26),(vE 37,27),(vE 6,28)] [29] [29] zK zK (by first | exact zR | omega) (fun w1 h1=>h1) ?_ ?_ ?_
 ·exact Rf.2 ⟨UR rfl (fun _ _ _=>rfl),Rf.2 ⟨UR rfl (fun _ _ _=>rfl),Rf.2 ⟨xx rfl (fun _ _ _=>rfl),Rf.2 ⟨xx rfl (fun _ _ _=>rfl),Rf.2 ⟨xx rfl (fun _ _ _=>rfl),Rf.2 ⟨xx rfl (fun _ _ _=>rfl),Rf.2 ⟨xx rfl (fun _ _ _=>rfl),Rf.2 ⟨xx rfl (fun _ _ _=>rfl),Rf.2 ⟨xx rfl (fun _ _ _=>rfl),Rf.2 ⟨xx rfl (fun _ _ _=>rfl),Rf.2 ⟨xx rfl (fun _ _ _=>rfl),Rf.2 ⟨UR rfl (fun vs us h=>by simp only [h 3 zD,h 9 zD,h 15 zD,h 21 zD,h 26 zD]),Rf.2 ⟨xx rfl (fun _ _ _=>rfl),RB _⟩⟩⟩⟩⟩⟩⟩⟩⟩⟩⟩⟩⟩
 ·refine Rf.2 ⟨?_,Rf.2 ⟨?_,Rf.2 ⟨?_,Rf.2 ⟨?_,Rf.2 ⟨?_,Rf.2 ⟨?_,Rf.2 ⟨?_,Rf.2 ⟨?_,Rf.2 ⟨?_,Rf.2 ⟨?_,Rf.2 ⟨?_,Rf.2 ⟨?_,Rf.2 ⟨?_,RB _⟩⟩⟩⟩⟩⟩⟩⟩⟩⟩⟩⟩⟩
  ·refine Qq [] rfl zK ?_
   intro w1 vs F Ia hd Lf;clear hd;unfold ki;simp only [List.foldl];change Yi _ _ _ fun v w'=>xm _ w1 w' F [] /\ mq (fun _=>vd vq T) 1 (oh vs 1 v) (Vn w1 w' F []) w'
   have Jd:=zb pc Ia.size;refine xM (by go_simp <;> rfl) (HT.out _) ?_
   rintro e w2 ⟨rfl,Ba⟩;exact ⟨_,rfl,GD Ba Jd _ _,rfl⟩
  ·refine Qq [(vE 11,1)] rfl zK ?_
   intro w1 vs F Ia hd Lf;have d1:mq (fun _=>vd vq T) 1 vs (F 1) w1 /\ ∀ b,F 1 b -> b<w1.1.size /\ _ <= b:=hd 1 zD
   clear hd;unfold ki;simp only [List.foldl];change Yi _ _ _ fun v w'=>xm _ w1 w' F [] /\ mq (fun _=>vd vq T) 2 (oh vs 2 v) (Vn w1 w' F []) w'
   have e1:vs 1=_:=d1.1;rw [e1];exact fy (v:=vd vq T) (w':=w1) (by go_simp <;> rfl) ⟨YV _ _ _ _,rfl⟩
  ·refine Qq [(vE 12,2)] rfl zK ?_
   intro w1 vs F Ia hd Lf;have d2:mq (fun _=>vd vq T) 2 vs (F 2) w1 /\ ∀ b,F 2 b -> b<w1.1.size /\ _ <= b:=hd 2 zD
   clear hd;unfold ki;simp only [List.foldl];change Yi _ _ _ fun v w'=>xm _ w1 w' F [] /\ Ge 28 (fun _=>Array.replicate T (ve vD 0 0)) (Ed T) 3 (oh vs 3 v) (Vn w1 w' F []) w'
   have Jd:=zb pc Ia.size;have e2:vs 2=_:=d2.1;rw [e2];exact fy (v:=ve (vE ⟨w1.1.size,0,vD⟩) T T) (w':=w1.alloc (.cells (Array.replicate T (ve vD 0 0)) 28)) (by rw [<- O7 T];have:=PQ (P:=prog) fA T zO zO w1;go_simp <;> rfl) ⟨GD ((tb _ _).alloc zR _) Jd _ _,Rv (Blk.new _ _ _) zR⟩
  ·refine Qq [] rfl zK ?_
   intro w1 vs F Ia hd Lf;clear hd;unfold ki;simp only [List.foldl];change Yi _ _ _ fun v w'=>xm _ w1 w' F [] /\ Ge 22 (fun _=>#[vd vn s,vd vn 1]) (Ed 2) 8 (oh vs 8 v) (Vn w1 w' F []) w'
   have Jd:=zb pc Ia.size;exact fy (v:=ve (vE ⟨w1.1.size,0,vD⟩) 2 2) (w':=w1.alloc (.cells #[vd vn s,vd vn 1] 22)) (by go_simp <;> rfl) ⟨GD ((tb _ _).alloc zR _) Jd _ _,Rv (Blk.new _ _ _) zR⟩
  ·refine Qq [(vE 18,8)] rfl zK ?_
   intro w1 vs F Ia hd Lf;have d8:Ge 22 (fun _=>#[vd vn s,vd vn 1]) (Ed 2) 8 vs (F 8) w1 /\ ∀ b,F 8 b -> b<w1.1.size /\ _ <= b:=hd 8 zD
   clear hd;unfold ki;simp only [List.foldl];change Yi _ _ _ fun v w'=>xm _ w1 w' F [8] /\ Ge 22 (fun _=>(Oa (re L.p s [1] L.k)).toArray) (Ed L.k) 9 (oh vs 9 v) (Vn w1 w' F [8]) w'
   have Jd:=zb pc Ia.size;obtain ⟨g8,e8,sy,k8⟩:=d8.1;rw [e8];refine xM (by go_simp <;> rfl) (HS.out [1] L.k g8 w1 (by simpa [Oa] using k8) (by intro y hy;simp at hy;omega) zS u1) ?_
   rintro e w2 ⟨g',rfl,sn,df,Wa⟩;exact ⟨_,rfl,TQ Wa (d8.2 _ sy).2 Jd (Zo.2 rfl) sy,Rv (by rw [<- pP];exact df) sn⟩
  ·refine Qq [] rfl zK ?_
   intro w1 vs F Ia hd Lf;clear hd;unfold ki;simp only [List.foldl];change Yi _ _ _ fun v w'=>xm _ w1 w' F [] /\ Ge 22 (fun _=>#[vd vn s,vd vn 2]) (Ed 2) 14 (oh vs 14 v) (Vn w1 w' F []) w'
   have Jd:=zb pc Ia.size;exact fy (v:=ve (vE ⟨w1.1.size,0,vD⟩) 2 2) (w':=w1.alloc (.cells #[vd vn s,vd vn 2] 22)) (by go_simp <;> rfl) ⟨GD ((tb _ _).alloc zR _) Jd _ _,Rv (Blk.new _ _ _) zR⟩
  ·refine Qq [(vE 24,14)] rfl zK ?_
   intro w1 vs F Ia hd Lf;have d14:Ge 22 (fun _=>#[vd vn s,vd vn 2]) (Ed 2) 14 vs (F 14) w1 /\ ∀ b,F 14 b -> b<w1.1.size /\ _ <= b:=hd 14 zD
   clear hd;unfold ki;simp only [List.foldl];change Yi _ _ _ fun v w'=>xm _ w1 w' F [14] /\ Ge 22 (fun _=>(Oa (re L.p s [2] m2)).toArray) (Ed m2) 15 (oh vs 15 v) (Vn w1 w' F [14]) w'
   have Jd:=zb pc Ia.size;obtain ⟨g8,e8,sy,k8⟩:=d14.1;rw [e8];refine xM (by go_simp <;> rfl) (HS.out [2] m2 g8 w1 (by simpa [Oa] using k8) (by intro y hy;simp at hy;omega) zS u2) ?_
   rintro e w2 ⟨g',rfl,sn,df,Wa⟩;exact ⟨_,rfl,TQ Wa (d14.2 _ sy).2 Jd (Zo.2 rfl) sy,Rv (by rw [<- pP];exact df) sn⟩
  ·refine Qq [] rfl zK ?_
   intro w1 vs F Ia hd Lf;clear hd;unfold ki;simp only [List.foldl];change Yi _ _ _ fun v w'=>xm _ w1 w' F [] /\ Ge 22 (fun _=>#[vd vn s,vd vn 3]) (Ed 2) 20 (oh vs 20 v) (Vn w1 w' F []) w'
   have Jd:=zb pc Ia.size;exact fy (v:=ve (vE ⟨w1.1.size,0,vD⟩) 2 2) (w':=w1.alloc (.cells #[vd vn s,vd vn 3] 22)) (by go_simp <;> rfl) ⟨GD ((tb _ _).alloc zR _) Jd _ _,Rv (Blk.new _ _ _) zR⟩
  ·refine Qq [(vE 30,20)] rfl zK ?_
   intro w1 vs F Ia hd Lf;have d20:Ge 22 (fun _=>#[vd vn s,vd vn 3]) (Ed 2) 20 vs (F 20) w1 /\ ∀ b,F 20 b -> b<w1.1.size /\ _ <= b:=hd 20 zD
   clear hd;unfold ki;simp only [List.foldl];change Yi _ _ _ fun v w'=>xm _ w1 w' F [20] /\ Ge 22 (fun _=>(Oa (re L.p s [3] m3)).toArray) (Ed m3) 21 (oh vs 21 v) (Vn w1 w' F [20]) w'
   have Jd:=zb pc Ia.size;obtain ⟨g8,e8,sy,k8⟩:=d20.1;rw [e8];refine xM (by go_simp <;> rfl) (HS.out [3] m3 g8 w1 (by simpa [Oa] using k8) (by intro y hy;simp at hy;omega) zS u3) ?_
   rintro e w2 ⟨g',rfl,sn,df,Wa⟩;exact ⟨_,rfl,TQ Wa (d20.2 _ sy).2 Jd (Zo.2 rfl) sy,Rv (by rw [<- pP];exact df) sn⟩
  ·refine Qq [] rfl zK ?_
   intro w1 vs F Ia hd Lf;clear hd;unfold ki;simp only [List.foldl];change Yi _ _ _ fun v w'=>xm _ w1 w' F [] /\ Ge 22 (fun _=>#[vd vn s,vd vn 4]) (Ed 2) 25 (oh vs 25 v) (Vn w1 w' F []) w'
   have Jd:=zb pc Ia.size;exact fy (v:=ve (vE ⟨w1.1.size,0,vD⟩) 2 2) (w':=w1.alloc (.cells #[vd vn s,vd vn 4] 22)) (by go_simp <;> rfl) ⟨GD ((tb _ _).alloc zR _) Jd _ _,Rv (Blk.new _ _ _) zR⟩
  ·refine Qq [(vE 35,25)] rfl zK ?_
   intro w1 vs F Ia hd Lf;have d25:Ge 22 (fun _=>#[vd vn s,vd vn 4]) (Ed 2) 25 vs (F 25) w1 /\ ∀ b,F 25 b -> b<w1.1.size /\ _ <= b:=hd 25 zD
   clear hd;unfold ki;simp only [List.foldl];change Yi _ _ _ fun v w'=>xm _ w1 w' F [25] /\ Ge 22 (fun _=>(Oa (re Bb s [4] L.n)).toArray) (Ed L.n) 26 (oh vs 26 v) (Vn w1 w' F [25]) w'
   have Jd:=zb pc Ia.size;obtain ⟨g8,e8,sy,k8⟩:=d25.1;rw [e8];refine xM (by go_simp <;> rfl) (HD.out [4] L.n g8 w1 (by simpa [Oa] using k8) (by intro y hy;simp at hy;omega) zS u4) ?_
   rintro e w2 ⟨g',rfl,sn,df,Wa⟩;exact ⟨_,rfl,TQ Wa (d25.2 _ sy).2 Jd (Zo.2 rfl) sy,Rv (by rw [<- zDL];exact df) sn⟩
  ·refine Qq [(vE 13,3),(vE 19,9),(vE 25,15),(vE 31,21),(vE 36,26)] rfl zK ?_
   intro w1 vs F Ia hd Lf;have d3:Ge 28 (fun _=>Array.replicate T (ve vD 0 0)) (Ed T) 3 vs (F 3) w1 /\ ∀ b,F 3 b -> b<w1.1.size /\ _ <= b:=hd 3 zD
   have d9:Ge 22 (fun _=>(Oa (re L.p s [1] L.k)).toArray) (Ed L.k) 9 vs (F 9) w1 /\ ∀ b,F 9 b -> b<w1.1.size /\ _ <= b:=hd 9 zD
   have d15:Ge 22 (fun _=>(Oa (re L.p s [2] m2)).toArray) (Ed m2) 15 vs (F 15) w1 /\ ∀ b,F 15 b -> b<w1.1.size /\ _ <= b:=hd 15 zD
   have d21:Ge 22 (fun _=>(Oa (re L.p s [3] m3)).toArray) (Ed m3) 21 vs (F 21) w1 /\ ∀ b,F 21 b -> b<w1.1.size /\ _ <= b:=hd 21 zD
   have d26:Ge 22 (fun _=>(Oa (re Bb s [4] L.n)).toArray) (Ed L.n) 26 vs (F 26) w1 /\ ∀ b,F 26 b -> b<w1.1.size /\ _ <= b:=hd 26 zD
   clear hd;unfold ki;simp only [List.foldl];change Yi _ _ _ fun v w'=>xm _ w1 w' F [] /\ mq (fun vs=>vf #[vs 3,vs 9,vs 15,vs 21,vs 26]) 27 (oh vs 27 v) (Vn w1 w' F []) w'
   obtain ⟨g3,e3,-⟩:=d3.1;obtain ⟨g9,e9,-⟩:=d9.1;obtain ⟨g15,e15,-⟩:=d15.1;obtain ⟨g21,e21,-⟩:=d21.1;obtain ⟨tq,e26,-⟩:=d26.1;exact fy (v:=vf #[vs 3,vs 9,vs 15,vs 21,vs 26]) (w':=w1) (by rw [e3,e9,e15,e21,e26];go_simp <;> rfl) ⟨YV _ _ _ _,rfl⟩
  ·refine Qq [] rfl zK ?_
   intro w1 vs F Ia hd Lf;clear hd;unfold ki;simp only [List.foldl];change Yi _ _ _ fun v w'=>xm _ w1 w' F [] /\ Ge 41 (fun _=>#[ve vD 0 0,ve vD 0 0,ve vD 0 0,ve vD 0 0,ve vD 0 0]) mkP 28 (oh vs 28 v) (Vn w1 w' F []) w'
   have Jd:=zb pc Ia.size;exact fy (v:=.pointer (vE ⟨w1.1.size,0,vD⟩)) (w':=w1.alloc (.cells #[ve vD 0 0,ve vD 0 0,ve vD 0 0,ve vD 0 0,ve vD 0 0] 41)) (by go_simp <;> rfl) ⟨GD ((tb _ _).alloc zR _) Jd _ _,Rv (Blk.new _ _ _) zR⟩
 intro wf vs F zk hf Lf;have f1:mq (fun _=>vd vq T) 1 vs (F 1) wf /\ ∀ b,F 1 b -> b<wf.1.size /\ _ <= b:=hf _ (.head _) zD
 have f2:mq (fun _=>vd vq T) 2 vs (F 2) wf /\ ∀ b,F 2 b -> b<wf.1.size /\ _ <= b:=hf _ (.tail _ (.head _)) zD
 have f3:Ge 28 (fun _=>Array.replicate T (ve vD 0 0)) (Ed T) 3 vs (F 3) wf /\ ∀ b,F 3 b -> b<wf.1.size /\ _ <= b:=hf _ (.tail _ (.tail _ (.head _))) zD
 have f9:Ge 22 (fun _=>(Oa (re L.p s [1] L.k)).toArray) (Ed L.k) 9 vs (F 9) wf /\ ∀ b,F 9 b -> b<wf.1.size /\ _ <= b:=hf _ (.tail _ (.tail _ (.tail _ (.tail _ (.head _))))) zD
 have f15:Ge 22 (fun _=>(Oa (re L.p s [2] m2)).toArray) (Ed m2) 15 vs (F 15) wf /\ ∀ b,F 15 b -> b<wf.1.size /\ _ <= b:=hf _ (.tail _ (.tail _ (.tail _ (.tail _ (.tail _ (.tail _ (.head _))))))) zD
 have f21:Ge 22 (fun _=>(Oa (re L.p s [3] m3)).toArray) (Ed m3) 21 vs (F 21) wf /\ ∀ b,F 21 b -> b<wf.1.size /\ _ <= b:=hf _ (.tail _ (.tail _ (.tail _ (.tail _ (.tail _ (.tail _ (.tail _ (.tail _ (.head _))))))))) zD
 have f26:Ge 22 (fun _=>(Oa (re Bb s [4] L.n)).toArray) (Ed L.n) 26 vs (F 26) wf /\ ∀ b,F 26 b -> b<wf.1.size /\ _ <= b:=hf _ (.tail _ (.tail _ (.tail _ (.tail _ (.tail _ (.tail _ (.tail _ (.tail _ (.tail _ (.tail _ (.head _))))))))))) zD
 have f27:mq (fun vs=>vf #[vs 3,vs 9,vs 15,vs 21,vs 26]) 27 vs (F 27) wf /\ ∀ b,F 27 b -> b<wf.1.size /\ _ <= b:=hf _ (.tail _ (.tail _ (.tail _ (.tail _ (.tail _ (.tail _ (.tail _ (.tail _ (.tail _ (.tail _ (.tail _ (.head _)))))))))))) zD
 have f28:Ge 41 (fun _=>#[ve vD 0 0,ve vD 0 0,ve vD 0 0,ve vD 0 0,ve vD 0 0]) mkP 28 vs (F 28) wf /\ ∀ b,F 28 b -> b<wf.1.size /\ _ <= b:=hf _ (.tail _ (.tail _ (.tail _ (.tail _ (.tail _ (.tail _ (.tail _ (.tail _ (.tail _ (.tail _ (.tail _ (.tail _ (.head _))))))))))))) zD
 clear hf;unfold ki;simp only [List.foldl];have e1:vs 1=vd vq T:=f1.1;have e2:vs 2=vd vq T:=f2.1;obtain ⟨⟨g3,e3,h3,k3⟩,b3⟩:=f3;have y3:=(b3 _ h3).2;obtain ⟨⟨g9,e9,h9,k9⟩,b9⟩:=f9;have y9:=(b9 _ h9).2;obtain ⟨⟨g15,e15,h15,En⟩,b15⟩:=f15;have y15:=(b15 _ h15).2;obtain ⟨⟨g21,e21,h21,Gn⟩,b21⟩:=f21;have y21:=(b21 _ h21).2;obtain ⟨⟨tq,e26,h26,Hn⟩,b26⟩:=f26;have y26:=(b26 _ h26).2;have e27:vs 27=vf #[vs 3,vs 9,vs 15,vs 21,vs 26]:=f27.1;obtain ⟨⟨uI,e28,h28,Pp⟩,b28⟩:=f28;have y28:=(b28 _ h28).2;have n3_9:g3≠g9:=fun e=>Lf 3 9 _ zD h3 (by rw [e];exact h9)
 have c8:g3≠g15:=fun e=>Lf 3 15 _ zD h3 (by rw [e];exact h15)
 have l8:g3≠g21:=fun e=>Lf 3 21 _ zD h3 (by rw [e];exact h21)
 have o8:g3≠tq:=fun e=>Lf 3 26 _ zD h3 (by rw [e];exact h26)
 have WV:g3≠uI:=fun e=>Lf 3 28 _ zD h3 (by rw [e];exact h28)
 have n9_15:g9≠g15:=fun e=>Lf 9 15 _ zD h9 (by rw [e];exact h15)
 have n9_21:g9≠g21:=fun e=>Lf 9 21 _ zD h9 (by rw [e];exact h21)
 have n9_26:g9≠tq:=fun e=>Lf 9 26 _ zD h9 (by rw [e];exact h26)
 have n9_28:g9≠uI:=fun e=>Lf 9 28 _ zD h9 (by rw [e];exact h28)
 have n15_21:g15≠g21:=fun e=>Lf 15 21 _ zD h15 (by rw [e];exact h21)
 have n15_26:g15≠tq:=fun e=>Lf 15 26 _ zD h15 (by rw [e];exact h26)
 have n15_28:g15≠uI:=fun e=>Lf 15 28 _ zD h15 (by rw [e];exact h28)
 have n21_26:g21≠tq:=fun e=>Lf 21 26 _ zD h21 (by rw [e];exact h26)
 have n21_28:g21≠uI:=fun e=>Lf 21 28 _ zD h21 (by rw [e];exact h28)
 have n26_28:tq≠uI:=fun e=>Lf 26 28 _ zD h26 (by rw [e];exact h28)
 simp only [e3,e9,e15,e21,e26] at e27;simp only [e1,e2,e3,e9,e15,e21,e26,e27,e28];clear f1 f2 b3 b9 b15 b21 b26 f27 b28 e1 e2 e3 e9 e15 e21 e26 e27 e28 h3 h9 h15 h21 h26 h28
 try dsimp only [Ed]
 try dsimp only [mkP]
 have YH:=Pp.frozen;have cc28:=Pp.cell;clear Lf;refine Te (Be w4.1.size) rfl rfl rfl ?_;go_simp;have Lb:=zA1 (w:=wf) (g:=uI) (ve (vE ⟨g3,0,vD⟩) T T) (ve (vE ⟨g9,0,vD⟩) L.k L.k) (ve (vE ⟨g15,0,vD⟩) m2 m2) (ve (vE ⟨g21,0,vD⟩) m3 m3) (ve (vE ⟨tq,0,vD⟩) L.n L.n);have uQ:=zA0 Pp (ve (vE ⟨g3,0,vD⟩) T T) (ve (vE ⟨g9,0,vD⟩) L.k L.k) (ve (vE ⟨g15,0,vD⟩) m2 m2) (ve (vE ⟨g21,0,vD⟩) m3 m3) (ve (vE ⟨tq,0,vD⟩) L.n L.n);refine ⟨Er Lb (zQ zk.size) y28,?_⟩;have Vl:Blk wf w.1.size _ _:=(ia kl Ma).below zk zO;have kz':Blk wf (w.1.size+1) _ _:=(ia kz Ma).below zk zO;have TK:vA w.1.size w wf:=(ma da Ma).trans (zk.mono zO);have yj:w4.1.size <= wf.1.size:=zb pc zk.size;have hE:∀ {a b:Nat},a≠b -> vE a≠vE b:=fun h e=>h (Ya e)
 replace Vl:=Vl.grown Lb (hE zO);replace kz':=kz'.grown Lb (hE zO);replace k3:=k3.grown Lb (hE WV);replace k9:=k9.grown Lb (hE n9_28);replace En:=En.grown Lb (hE n15_28);replace Gn:=Gn.grown Lb (hE n21_28);replace Hn:=Hn.grown Lb (hE n26_28);replace TK:=TK.trans (Er Lb TK.size zO);replace yj:=zb yj Lb.size;clear Lb YH cc28 Pp kl kz kn da Ma zk pc ea Ja cl cn l2 HT HD;generalize ((((wf.setCell _ _).setCell _ _).setCell _ _).setCell _ _).setCell _ _=w5 at Vl kz' k3 k9 En Gn Hn uQ TK yj |-
 refine zPU ?_
 refine Hc ?_;have YH:=uQ.cell;have JA:(Array.replicate T (ve vD 0 0)).size=T:=by simp
 generalize Array.replicate T (ve vD 0 0)=Eh at k3 JA;have HN:=zH (show w4.1.size=w4.1.size from rfl)
 have x0:w.1.size+1<w4.1.size:=by omega
 generalize w4.1.size=N at *;have HN2:=zH (show w.1.size <= N by omega)
 clear Xc Dd l1;have q1:(T:Int) <= 400000:=by omega
 obtain ⟨NF,hNF⟩:=zEX (w5.1.size);have lNF:g3<NF /\ g9<NF /\ g15<NF /\ g21<NF /\ tq<NF:=by rw [hNF];exact ⟨k3.lt,k9.lt,En.lt,Gn.lt,Hn.lt⟩
 have hNW:NF <= w5.1.size:=Nat.le_of_eq hNF;have yN:N <= g3 /\ N <= g9 /\ N <= g15 /\ N <= g21 /\ N <= tq:=by have:=HN.out;omega
 clear hNF;go_wp2_with fail
 go_loopw [41] (fun y wr=>∃ (i:Nat) (cs:Array vx) (f:Nat -> Nat),i <= T /\ y=vd vq i /\ cs.size=T /\ Blk wr w.1.size 101 #[vd vn L.p,vd vq L.block,vd vq L.queries,vd vq L.k,vd vq L.n,vd vq L.secret,vd vq L.rows,vd vq L.a,vd vq L.b,vd vq L.b,vd vq L.b] /\ Blk wr (w.1.size+1) 41 #[ve vD 0 0,ve vD 0 0,ve vD 0 0,ve vD 0 0,ve vD 0 0] /\ Blk wr uI 41 #[ve (vE ⟨g3,0,vD⟩) T T,ve (vE ⟨g9,0,vD⟩) L.k L.k,ve (vE ⟨g15,0,vD⟩) m2 m2,ve (vE ⟨g21,0,vD⟩) m3 m3,ve (vE ⟨tq,0,vD⟩) L.n L.n] /\ Blk wr g3 28 cs /\ FBs NF wr cs L.queries i (fun k=>re L.p s [0,k] L.queries) f /\ Blk wr g9 22 (Oa (re L.p s [1] L.k)).toArray /\ Blk wr g15 22 (Oa (re L.p s [2] m2)).toArray /\ Blk wr g21 22 (Oa (re L.p s [3] m3)).toArray /\ Blk wr tq 22 (Oa (re Bb s [4] L.n)).toArray /\ vA w.1.size w wr /\ N <= wr.1.size /\ NF <= wr.1.size) (fun y _=>T-(intOf y).toNat)
 case atStart=>exact ⟨0,Eh,fun _=>0,Kb _,rfl,JA,Vl,kz',uQ,k3,zEh _ _ _ _ _ _,k9,En,Gn,Hn,TK,yj,hNW⟩
 case round =>
  clear Vl kz' uQ k3 k9 En Gn Hn TK yj YH JA hNW;obtain ⟨i,cs,f,hi,rfl,Yf,kl,kz,Pp,k3,Ip,k9,En,Gn,Hn,da,Qe,RK⟩:=hrel;by_cases ta:i<T
  ·have g2:(i:Int)<T:=by omega
   have g1:(0:Int)<=i:=by omega
   have ew:vn.wrap (i:Int)=i:=by rw [Kj];omega
   have cl:=kl.cell;have YH:=Pp.cell;have z1:=kl.lt;have z2:=Pp.lt;have z3:w.1.size≠g3:=by omega
   have z4:=WV.symm;go_upto_region 6 with fail
   refine zd (So g3 wr.1.size) [9,10,12] [0,1,2,3,4,5,6,7,8,9,10,11,12] zK zK ?_;refine Ue (Yb g3 wr.1.size) ?_;intro Wc Ja ea;have Ma:=jg Ja;refine qY ?_;refine Te (Yb g3 wr.1.size) rfl rfl rfl ?_;go_simp;have pc:wr.1.size <= Wc.1.size:=Ma.size;refine ⟨Xk ((tb _ _).alloc zR _) pc,?_⟩;obtain ⟨kA,ja⟩:=zN Wc 22 #[vd vn s,vd vn 0,vd vn i];have hNA:wr.1.size <= (Wc.alloc (.cells #[vd vn s,vd vn 0,vd vn i] 22)).1.size:=by have:=ja.size;omega
   replace Ma:=ma Ma ja
   refine zPU ?_
   generalize Wc.alloc _=w6 at kA hNA Ma |-;generalize Wc.1.size=gA at kA pc |-;clear ja ea Ja;have ea:=(Yb g3 wr.1.size).refl w6;have HC:=zH (HS.out [0,i] L.queries gA w6 (by simpa [Oa] using kA) (by intro y hy;simp at hy;omega) zS zO)
   refine tE (Yb g3 wr.1.size) rfl rfl rfl (fun _=>by go_simp <;> rfl) ((HC.out).mono ?_)
   rintro e w7 ⟨g',rfl,sn,df,Wa⟩;refine ⟨_,rfl,oy Wa hNA (fun k e=>by rw [<- Ya e];exact pc),?_⟩
   replace ea:=(Yb g3 wr.1.size).trans _ _ _ ea (oy Wa hNA (fun k e=>by rw [<- Ya e];exact pc))
   refine zPU ?_;have Dg:vA wr.1.size wr w7:=Ma.trans (Er Wa hNA pc);have UP:g3≠g':=by have:=k3.lt;have:=Ma.size;omega
   replace kl:=ia kl Dg;replace kz:=ia kz Dg;replace Pp:=ia Pp Dg;replace k3:=ia k3 Dg;replace k9:=ia k9 Dg;replace En:=ia En Dg;replace Gn:=ia Gn Dg;replace Hn:=ia Hn Dg;have hfg:∀ k,k<i -> f k<g':=fun k hk=>by have h1:=(Ip.at_ k hk).2.1.lt;have h2:=Ma.size;omega
   have hFg:NF <= g':=by have:=Ma.size;omega
   replace Ip:=Ip.keep fun b _ hl=>Dg.block b hl
   replace RK:=zb RK Dg.size;replace da:=ma da Dg;rw [pP] at df;replace Qe:=zb Qe Dg.size;have f3:=k3.frozen;obtain ⟨old,ho⟩:∃ old,cs[i]?=vE old:=⟨cs[i]'zO,Array.getElem?_eq_getElem zO⟩;have c3:=k3.cell i;rw [ho] at c3;clear ho;have HM:=zH Dg.size;have KG:=zH df;clear Wa df HC kA Ma Dg hNA pc cl YH z1 z2 sn;refine qY ?_;refine Te (Yb g3 wr.1.size) rfl rfl rfl ?_;go_simp;have Lb:w7.grownBy (w7.setCell ⟨g3,i,vD⟩ (ve (vE ⟨g',0,vD⟩) L.queries L.queries)) (vE g3):=mh (p:=⟨g3,i,vD⟩) (Ce w7 _) (.inl rfl) _;refine ⟨uC Lb HM.out,?_⟩;have hE:∀ {a b:Nat},a≠b -> vE a≠vE b:=fun h e=>h (Ya e)
   replace kl:=kl.grown Lb (hE zO);replace kz:=kz.grown Lb (hE zO);replace Pp:=Pp.grown Lb (hE WV.symm);replace k9:=k9.grown Lb (hE n3_9.symm);replace En:=En.grown Lb (hE c8.symm);replace Gn:=Gn.grown Lb (hE l8.symm);replace Hn:=Hn.grown Lb (hE o8.symm);replace k3:=k3.set_ i (ve (vE ⟨g',0,vD⟩) L.queries L.queries);replace Ip:=(Ip.keep (u:=w7.setCell ⟨g3,i,vD⟩ (ve (vE ⟨g',0,vD⟩) L.queries L.queries)) fun b h1 h2=>Lb.block b h2 (hE zO)).next zO hfg hFg (KG.out.grown Lb (hE zO))
   replace RK:=zb RK Lb.size;replace da:=Ef da Lb;replace Qe:=zb Qe Lb.size;clear Lb f3 c3 ea KG hfg hFg;generalize w7.setCell _ _=w8 at kl kz Pp k9 En Gn Hn k3 Ip da Qe RK |-
   refine zPU ?_
   refine Hc ?_;go_wp2
   go_roundw
   case rel=>exact ⟨i+1,_,_,zO,by go_num,by simp [Yf],kl,kz,Pp,k3,Ip,k9,En,Gn,Hn,da,Qe,RK⟩
   case measure=>simp [intOf];omega
  ·obtain rfl:i=T:=by omega
   have YH:=Pp.cell;have cz:=kz.cell;have fz:=kz.frozen;have g2:¬((i:Int)<i):=by omega
   go_wp2_with fail
   have Lb:=zA1 (w:=wr) (g:=w.1.size+1) (ve (vE ⟨g3,0,vD⟩) i i) (ve (vE ⟨g9,0,vD⟩) L.k L.k) (ve (vE ⟨g15,0,vD⟩) m2 m2) (ve (vE ⟨g21,0,vD⟩) m3 m3) (ve (vE ⟨tq,0,vD⟩) L.n L.n);replace kz:=zA0 kz (ve (vE ⟨g3,0,vD⟩) i i) (ve (vE ⟨g9,0,vD⟩) L.k L.k) (ve (vE ⟨g15,0,vD⟩) m2 m2) (ve (vE ⟨g21,0,vD⟩) m3 m3) (ve (vE ⟨tq,0,vD⟩) L.n L.n);have hE:∀ {a b:Nat},a≠b -> vE a≠vE b:=fun h e=>h (Ya e)
   replace k9:=k9.grown Lb (hE zO);replace En:=En.grown Lb (hE zO);replace Gn:=Gn.grown Lb (hE zO);replace Hn:=Hn.grown Lb (hE zO);replace k3:=k3.grown Lb (hE zO);replace Ip:=Ip.keep (u:=((((wr.setCell _ _).setCell _ _).setCell _ _).setCell _ _).setCell _ _) fun b h1 h2=>Lb.block b h2 (hE zO)
   replace da:=Ef da Lb;clear Lb kl Pp YH cz fz;generalize ((((wr.setCell _ _).setCell _ _).setCell _ _).setCell _ _).setCell _ _=w9 at kz k9 En Gn Hn k3 Ip da |-;have cz:=kz.cell;refine Sc (v:=vf #[ve (vE ⟨g3,0,vD⟩) i i,ve (vE ⟨g9,0,vD⟩) L.k L.k,ve (vE ⟨g15,0,vD⟩) m2 m2,ve (vE ⟨g21,0,vD⟩) m3 m3,ve (vE ⟨tq,0,vD⟩) L.n L.n]) (by simp [results,results103,go_sem,cz]) rfl ?_
   exact ⟨cs,g3,g9,g15,g21,tq,rfl,⟨NF,f,k3,k9,En,Gn,Hn,Ip,by have:=HN2.out;omega,lNF,by simp only [List.nodup_cons,Ah,List.not_mem_nil,or_false,not_or,not_false_eq_true,List.nodup_nil,and_true];exact ⟨⟨n3_9,c8,l8,o8⟩,⟨n9_15,n9_21,n9_26⟩,⟨n15_21,n15_26⟩,n21_26⟩⟩,da⟩
theorem zEZ:(prog.info? 3).map (fun i=>(i.zero,i.size,i.bytes))=vE (vE (vd vq 0),1,8):=by kernel_rfl
theorem zDZ (a b c d:Int) (w:vw):(Op.equalIn 10000 33 (vf #[vd vq a,vd vq b,vd vq c,vd vq d]) (vf #[vd vq a,vd vq b,vd vq c,vd vq d])).run prog w= .ok true w:=by
 obtain ⟨i,hi,hz,hs,Em⟩:=info_parts zEZ;rw [run_equalIn_array w 9999 _ _ underlying33 hi];have hu:=Hu;have hr:List.range 4=[0,1,2,3]:=rfl;rw [hr,ZH];simp [Op.eqItems,part,run_equalIn_int _ _ _ _ _ _ _ hu,sizeOf]
structure Gu (L:Na) (pu:Nat) (vars:Int) (rows:List Ua):Prop where
 nr:L.rows=rows.length
 sec:vars=(L.secret:Int)+1+(pu:Int)
 small:(pu:Int) <= 4294967296
theorem qT (L:Na) (pu:Nat) (vars:Int) (A:Option vy) (n c:Nat) (rows:List Ua) (w:vw) (hL:Nb L) (hF:Gu L pu vars rows) (hn:rows.length=n) :
  vB prog 123 #[vf (ib L),Zb L.p (pu:Int) vars (ve A n c)] w fun e w'=>e=vl (.bool true) /\ vA w.1.size w w':=by
 have Ia:=hL.b1;have Ba:=hL.b2;have hs:=hL.s;have hr:=hL.r;have EA:=hF.nr;have kD:=hF.sec;have Zu:=hF.small;have HV:=zH (fun w=>zp L.p w hL.p)
 have Jv:=zH (fun w=>by have:=mR L.rows L.block w zO zO zO;rw [<- hL.be] at this;exact this)
 have ar:=zH (fun w=>by have:=mR L.secret L.block w zO zO zO;rw [<- hL.ae] at this;exact this)
 have i1:((L.p:Int)!=L.p)=false:=by simp
 have i2:decide ((L.block:Int)<1)=false:=db zO;have i3:((L.rows:Int)!=n)=false:=by rw [Hr];omega
 have i4:decide ((16384:Int)<L.rows)=false:=db zO;have i5:decide ((pu:Int)<0)=false:=db zO;have i6:decide ((L.secret:Int)<0)=false:=db zO;have x1:vars-1=(L.secret:Int)+pu:=by omega
 obtain ⟨t,ht⟩:=zEX (L.secret+pu);have x2:(L.secret:Int)+pu=(t:Int):=by omega
 have x3:=Qc t;have x4:(t:Int)-pu=(L.secret:Int):=by omega
 have x5:vq.wrap (L.secret:Int)=L.secret:=El _ zO zO;have i7:((L.secret:Int)!=L.secret)=false:=by simp
 rw [x2] at x1;clear ht hL hF Ia Ba hs hr EA kD Zu hn x2;unfold ib Zb fv at *;obtain ⟨kl,kt,da,-⟩:=Yg w 101 25 #[vd vn L.p,vd vq L.block,vd vq L.queries,vd vq L.k,vd vq L.n,vd vq L.secret,vd vq L.rows,vd vq L.a,vd vq L.b,vd vq L.b,vd vq L.b] #[vd vn L.p,vd vq pu,vd vq vars,ve A n c];go_enter func123,ntmps123
 go_upto_region 1 with fail
 generalize (w.alloc _).alloc _=w1 at kl kt da |-;have cl:=kl.cell;have ct:=kt.cell;go_wp2_with fail
 refine (HV.out _).mono ?_;rintro e w2 ⟨rfl,xa⟩;replace kl:=ia kl xa;replace kt:=ia kt xa;replace da:=ma da xa;clear xa cl ct;have cl:=kl.cell;have ct:=kt.cell;go_wp2_with fail
 refine (Jv.out _).mono ?_;rintro e w3 ⟨rfl,rfl⟩;have ll:=kl.lt;go_upto_region 6 with fail
 refine zd (Wb) [6] [0,1,2,3,4,5,7,8,9,6,10,11,12] zK zK ?_;refine Ue (oa) ?_;intro Wc Ja ea;have Ma:=jg Ja;refine Pb ?_;refine Ic oa rfl rfl rfl ((ar.out _).mono ?_);rintro e w4 ⟨rfl,rfl⟩;refine ⟨_,rfl,(oa).refl _,?_⟩;replace ea:=zM oa ea ((oa).refl _);refine zPU ?_;have hq:=zDZ (L.a:Int) (L.b:Int) (L.b:Int) (L.b:Int);refine Pb ?_;refine Hc ?_;replace da:=ma da Ma;go_wp2;go_ret
 exact ⟨zS,da⟩
theorem zFR (n:Nat) (hn:n <= 1000000) (w:vw) :
  (Instr.makeSlice 39 (vd vq 0) (vd vq n)).run prog w= .ok (ve (vE ⟨w.1.size,0,vD⟩) 0 n) (w.alloc (.cells (Array.replicate n (ve vD 0 0)) 28)):=by
 obtain ⟨ht,⟨i,hi,hz,hs,Em⟩,uJ,jb⟩:=fA;have:=run_make (P:=prog) w 39 28 i _ ht hi hz vq vq 0 (n:Int) zO zO (by rw [Em];omega) zO
 rw [Rk,hs,O7] at this;exact this
theorem zDR {l:List Nat} {k B:Nat}:(l.drop k).drop (min (l.drop k).length B)=l.drop (k+B):=by
 rw [Mj];by_cases h:(l.drop k).length <= B
 ·rw [Nat.min_eq_left h]
  rw [ti] at h |-;rw [List.drop_eq_nil_of_le zO,List.drop_eq_nil_of_le zO]
 ·rw [Nat.min_eq_right zO]
theorem idx_4 {w:vw} {a b c d:vx} {i:Nat} (h:i<4):(Instr.index 219 (vf #[a,b,c,d]) (vd vq i)).run prog w= .ok (Df a b c d i) w :=
 LR underlying219 (by simp [isAgg,run_underlying underlying28]) (by
  obtain ⟨-,⟨i0,hi,-,hs,-⟩,-,-⟩:=fA;simp [sizeOf,typeInfo,hi,hs]) h (zAY a b c d h)
def lenV:vx -> Nat
 | ve _ n _=>n
 | _=>0
theorem zDo {B:Nat} {l:List Nat} {k t:Nat} (ht:t=min (l.drop k).length B):((Qa B fun _=>0).toList.take 0++Oa ((l.drop k).take t)++(Qa B fun _=>0).toList.drop (0+(Oa ((l.drop k).take t)).length)).toArray=Qa B fun j=>l.getD (k+j) 0:=by
 rw [Yv,Yv]
 congr 1
 have hl:(Oa ((l.drop k).take t)).length=t:=by simp [Oa];rw [ht];simp;try omega
 apply Kv
 ·simp only [List.take_zero,List.nil_append,jj,ti,hl]
  simp [Oa]
  omega
 ·intro i h1 h2
  simp [Oa] at h2
  by_cases h:i<t
  ·rw [zr (by simp only [List.take_zero,List.nil_append,hl];exact h)]
   simp only [List.take_zero,List.nil_append];have h3:i<(l.drop k).length:=by omega
   have h4:k+i<l.length:=by rw [ti] at h3;omega
   simp [Oa,h4]
  ·rw [Vx (by simp only [List.take_zero,List.nil_append,hl];omega)]
   have h3:¬k+i<l.length:=by
    intro h5;have:(l.drop k).length=l.length-k:=ti;omega
   simp [Oa,h3]
theorem zDp {B k t g:Nat} {l:List Nat} {A:Option vy} {n c:Nat} (w:vw) (hl:RWd w [ve A n c] (l.drop k)) (ht:t=min (l.drop k).length B) (h1:0<t) (kg:Blk w g 22 (Qa B fun _=>0)) (ty:vz) :
  (Builtin.copy_ #[28,28] ty #[ve (vE ⟨g,0,vD⟩) B B,ve A n c]).run prog w= .ok (goInt t) (w.setRow g (Qa B fun j=>l.getD (k+j) 0)):=by
 obtain ⟨hn,-,-,-,hr⟩:=Ob hl;have hlen:(Oa ((l.drop k).take t)).length=t:=by
  have h1:(l.drop k).length=l.length-k:=ti;simp [Oa]
  omega
 have jb:(prog.info? 22).map (·.size)=vE 1:=by
  obtain ⟨-,⟨i,hi,-,hs,-⟩,-,-⟩:=Et;rw [hi];simp [hs]
 obtain ⟨ad,rfl,hc⟩:=hr.2 zO;have h:=run_copy_row (P:=prog) w 28 28 ty 22 g 0 B B ad n c (Qa B fun _=>0) 22 (Oa ((l.drop k).take t)) underlying28 jb kg (by rw [hlen,ht,hn]) (fun j v hj=>by
  have AA:j<t:=by
   have:=(List.getElem?_eq_some_iff.1 hj).1;rw [hlen] at this;exact this
  refine hc j v ?_;simp only [Oa,List.map_take,List.getElem?_take,Ka AA] at hj;exact hj) (by rw [hlen];simp [Qa];omega) (fun v hv=>by
  obtain ⟨x,-,rfl⟩:=Od.1 hv
  rfl)
 rw [h,zDo ht,hlen]
theorem BL {w:vw} {A:Option vy} {n c t:Nat} {l:List Nat} (h:RWd w [ve A n c] l) (ht:t <= n):RWd w [ve (if c=t then A else A.map (·.add t)) (n-t) (c-t)] (l.drop t):=by
 obtain ⟨hn,hc,hm,ta,hr⟩:=Ob h;have h2:=hr.cut (k:=t) ht hc;rw [fp] at h2;refine ⟨_,_,_,rfl,zO,zO,?_,fun x hx=>ta x (List.mem_of_mem_drop hx)⟩
 rw [show Oa (l.drop t)=(Oa l).drop t by simp [Oa]]
 exact h2
def RRx (B:Nat) (w:vw) (v:vx) (l:List (List Nat)):Prop:=(∀ q,v.ownBlock=vE q -> B <= q) /\ ∀ u:vw,(∀ b,B <= b -> b<w.1.size -> u.1[b]?=w.1[b]?) -> Xg u [v] l
theorem RRx.here {B:Nat} {w:vw} {v:vx} {l:List (List Nat)} (h:RRx B w v l):Xg w [v] l:=h.2 w fun _ _ _=>rfl
theorem RRx.mono {B C:Nat} {w:vw} {v:vx} {l:List (List Nat)} (h:RRx B w v l) (hC:C <= B):RRx C w v l:=⟨fun q e=>zb hC (h.1 q e),fun u hu=>h.2 u fun b h1 h2=>hu b zO h2⟩
theorem zAO {N base n B:Nat} {w:vw} {e:vz} {v:vx} {cs:List vx} {l:List (List Nat)} (h:Us N w v cs l) (ho:w.ownsRow base e 1 v n cs) (h1:B <= N) (h2:B <= base):RRx B w v l:=⟨fun q e=>zb h2 (ho.lt q e).1,fun u hu=>by
 refine BU (N:=N) (w:=u) ⟨h.1,fun i k1 k2=>?_⟩ (jX.own_agree' ho fun b b1 b2=>hu b zO b2)
 intro u' hu';refine h.2 i k1 k2 u' fun b b1 b2 b3=>?_
 have e1:=hu b zO b2;have hb:b<u.1.size:=by
  rcases Wg b u.1.size with q | q
  ·exact q
  ·rw [Array.getElem?_eq_none q,Array.getElem?_eq_getElem b2] at e1
   cases e1
 exact (hu' b b1 hb b3).trans e1⟩
theorem aC {w u:vw} {b o:Nat} (h:u.1[b]?=w.1[b]?):u.cell? ⟨b,o,vD⟩=w.cell? ⟨b,o,vD⟩:=by
 simp [World.cell?,h]
theorem zAP {B n c:Nat} {w:vw} {A:Option vy} {l:List (List Nat)} (h:RRx B w (ve A n c) l) {i:Nat} (hi:i<l.length) :
  ∃ b q A1 n1 c1,A=vE ⟨b,q,vD⟩ /\ B <= b /\ b<w.1.size /\ w.cell? ⟨b,q+i,vD⟩=vE (ve A1 n1 c1) /\ ∀ u:vw,(∀ b,B <= b -> b<w.1.size -> u.1[b]?=w.1[b]?) -> RWd u [ve A1 n1 c1] l[i]:=by
 obtain ⟨b,q,A1,n1,c1,rfl,hb,hc,-⟩:=zv (Yj h.here).2.2.2 hi;have hB:=h.1 b rfl;refine ⟨b,q,A1,n1,c1,rfl,hB,hb,hc,fun u hu=>?_⟩
 obtain ⟨b',q',A2,n2,c2,he,-,yq,hr⟩:=zv (Yj (h.2 u hu)).2.2.2 hi
 injection he with he
 injection he with h1 h2 h3
 subst h1 h2;rw [aC (hu b hB hb),hc] at yq
 injection yq with yq
 rw [yq];exact hr
theorem L9 (L:Na) (v0 v1 v2 v3:vx) (l0 l1 l2 l3:List Nat) (w:vw) (hL:Nb L) (hv:∀ i,i<4 -> RWd w [Df v0 v1 v2 v3 i] (Df l0 l1 l2 l3 i)) (hq:∀ i,i<4 -> Df L.a L.b L.b L.b i=((Df l0 l1 l2 l3 i).length+L.block-1) / L.block) :
  vB prog 125 #[vf (ib L),vf #[v0,v1,v2,v3]] w fun e w'=>∃ v,e=vl v /\ RRx w.1.size w' v (rq L.block (Df l0 l1 l2 l3) (Df L.a L.b L.b L.b)) /\ vA w.1.size w w':=by
 have Ia:=hL.b1;have Ba:=hL.b2;have hT4:L.a+L.b+L.b+L.b <= 400000:=by have:=hL.a;have:=hL.b;omega
 have dq:=zH (fun w=>GG L.p L.block L.queries L.k L.n L.secret L.rows L.a L.b L.b L.b w hL.a hL.b hL.b hL.b)
 have Uo:=zH (show ∀ i,Df L.a L.b L.b L.b i <= 100000 from fun i=>by
  have:=hL.a;have:=hL.b;unfold Df
  repeat' split
  all_goals omega)
 have HV:=zH hv;have HG:=zH (fun i (h:i<4)=>zAY v0 v1 v2 v3 h)
 obtain ⟨l,hl⟩:=zEX (Df l0 l1 l2 l3);obtain ⟨ps,Pt⟩:=zEX (Df L.a L.b L.b L.b);have Ez:=zH (show rq L.block (Df l0 l1 l2 l3) (Df L.a L.b L.b L.b)=Nl L.block l ps 4 by rw [hl,Pt];rfl)
 rw [Ez.out];rw [<- hl] at HV hq;rw [<- Pt] at Uo hq;have Px:=zH (show Nl L.block l ps 0=[] from rfl)
 have HPN:=zH (vM L.block l ps);have HQ:=zH hq;have mk:=Xw L.block zO;obtain ⟨T,hT⟩:=zEX (L.a+L.b+L.b+L.b);rw [<- hT] at hT4 dq;have mk0:=zFR T zO;have gT:(T:Int) <= 400000:=by omega
 have gT0:(0:Int)<=T:=by omega
 clear hv hl Pt Ez hL hq hT;unfold ib at *;obtain ⟨kl,kv,da,-⟩:=Yg w 101 219 #[vd vn L.p,vd vq L.block,vd vq L.queries,vd vq L.k,vd vq L.n,vd vq L.secret,vd vq L.rows,vd vq L.a,vd vq L.b,vd vq L.b,vd vq L.b] #[v0,v1,v2,v3];go_enter func125,ntmps125
 go_upto_region 1 with fail
 generalize (w.alloc _).alloc _=w0 at kl kv da |-;have cl:=kl.cell;go_wp2_with fail
 refine (dq.out _).mono ?_;rintro e w1 ⟨rfl,xa⟩;replace kl:=ia kl xa;replace kv:=ia kv xa;replace da:=ma da xa;clear xa cl;go_upto_region 2 with fail
 have Ca:=World.ownsRow_made (e:=28) (size:=1) w1 (Array.replicate T (ve vD 0 0)) T (base:=w1.1.size) zR (by simp [maxLen];omega) zS
 have ja:=zA w1 (.cells (Array.replicate T (ve vD 0 0)) 28);have hlv:w.1.size+1<w1.1.size:=kv.lt;have jb:w1.1.size <= (w1.alloc (.cells (Array.replicate T (ve vD 0 0)) 28)).1.size:=ja.size;replace kl:=ia kl ja;replace kv:=ia kv ja;replace da:=ma da ja;clear ja mk0;generalize w1.alloc _=w2 at kl kv da Ca jb |-;generalize w1.1.size=N at Ca hlv jb |-;have HWN:=zH (show w.1.size <= N by omega)
 have cv:=kv.cell;go_wp2_with fail
 generalize hBL:L.block=B at *;have HBL:=zH hBL;clear hBL cv kv dq;have g1:(0:Int)<B:=by omega
 have g2:(B:Int) <= 256:=by omega
 obtain ⟨LC,hLC⟩:∃ LC:Array vx,LC=#[vd vn L.p,vd vq B,vd vq L.queries,vd vq L.k,vd vq L.n,vd vq L.secret,vd vq L.rows,vd vq L.a,vd vq L.b,vd vq L.b,vd vq L.b]:=⟨_,rfl⟩;have Xn:=zH (show LC[1]?=vE (vd vq B) by rw [hLC];rfl)
 rw [<- hLC] at kl;clear hLC;go_loopw [5,13] (fun u y wr=>∃ (i n:Nat) (v:vx) (cs:List vx),v=u /\ i <= 4 /\ y=vd vq i /\ n <= i*100000 /\ Blk wr w.1.size 101 LC /\ wr.ownsRow N 28 1 v n cs /\ Us N wr v cs (Nl B l ps i) /\ vA w.1.size w wr /\ N <= wr.1.size) (fun _ y _=>4-(intOf y).toNat)
 case atStart=>exact ⟨0,0,_,[],rfl,zO,rfl,zO,kl,Ca,by rw [Px.out];exact O4 _ _ _,da,jb⟩
 case round =>
  clear kl da jb Ca;obtain ⟨i,n0,v,cs,rfl,hi,rfl,BA,kl,Ca,Wa,da,Yk⟩:=hrel;by_cases ta:i<4
  ·have q1:(i:Int)<4:=by omega
   have q0:(0:Int)<=i:=by omega
   have hvi:=HV.out i ta;have Pt:=Uo.out i;obtain ⟨p,hp⟩:=zEX (ps i);have Hy:=fun w=>idx_4 (w:=w) (a:=v0) (b:=v1) (c:=v2) (d:=v3) ta
   have qK:=zH (HPN.out i);obtain ⟨li,Dq⟩:=zEX (l i);obtain ⟨si,hsi⟩:=zEX (Df v0 v1 v2 v3 i);have HQi:=zH (show p=(li.length+B-1) / B by rw [hp,Dq];exact HQ.out i ta)
   rw [<- hsi] at hvi Hy;rw [<- Dq] at hvi qK;rw [<- hp] at Pt qK;clear hp Dq hsi;obtain ⟨Ai,ci,rfl⟩:=zIz hvi;obtain ⟨P0,hP0⟩:=zEX (Nl B l ps i);rw [<- hP0] at Wa qK;have HV0:=zH (show P0++Dt B li 0=P0 by simp [Dt])
   have dt:=zH (show ∀ k,(P0++Dt B li k)++[Ir B li k]=P0++Dt B li (k+1) from fun k=>by rw [zDs,iq])
   have HLTL:=zH (Ob hvi).2.2.2.1;have HVI:=zH (show RWd w [ve Ai li.length ci] (li.drop (0*B)) by rw [Nat.zero_mul,List.drop_zero];exact hvi)
   clear hP0 hvi;go_wp2_with fail
   go_loopw [5,7] (fun u sv wr=>∃ (k n ns c':Nat) (As:Option vy) (v:vx) (cs:List vx),v=u /\ sv=ve As ns c' /\ Hid (RWd w [ve As ns c'] (li.drop (k*B))) /\ k <= p /\ n <= i*100000+k /\ Blk wr w.1.size 101 LC /\ wr.ownsRow N 28 1 v n cs /\ Us N wr v cs (P0++Dt B li k) /\ vA w.1.size w wr /\ N <= wr.1.size) (fun _ sv _=>lenV sv)
   case atStart=>exact ⟨0,n0,_,_,_,_,cs,rfl,rfl,HVI,Kb _,by rw [tt];exact BA,kl,Ca,by rw [HV0.out];exact Wa,da,Yk⟩
   case round =>
    clear kl da Yk Ca Wa BA HVI Hy;obtain ⟨k,n1,ns,c',As,v,cs,rfl,rfl,HR,hk,Re,kl,Ca,Wa,da,Yk⟩:=hrel;obtain ⟨Bg,Cn,hr3,-,-⟩:=Ob HR.out;have grm:=Mm Cn hr3;have cq:=zH Bg;have HR2:=zH (And.intro Cn hr3);clear Bg Cn hr3;have c1:=kl.cell 1;rw [Xn.out] at c1;by_cases ql:0<ns
    ·have q2:(0:Int)<ns:=by omega
     obtain ⟨wo,hwo⟩:=zEX (wr);subst hwo;have HVN1:=zH (dt.out k);go_upto_region 7 with fail
     have kg:=Blk.new wo 22 (Qa B fun _=>0)
     have BF:=zA wo (.cells (Qa B fun _=>0) 22)
     have Uc:∀ q,v.ownBlock=vE q -> q<wo.1.size:=fun q e=>(Ca.lt q e).2
     have hgN:N <= wo.1.size:=Yk;clear c1;generalize wo.alloc _=w2 at kg BF |-;obtain ⟨t,ht⟩:=zEX (min (li.drop (k*B)).length B);have eG:0<t:=by rw [ht,<- cq.out];omega
     have ht2:t <= ns:=by rw [ht,<- cq.out];exact Nat.min_le_left _ _
     have rA:=zDp w2 (Ab (ma da BF) HR.out) ht eG kg;have hRn:=BL HR.out ht2;rw [ht,zDR,<- ht,show k*B+B=(k+1)*B by rw [Nat.succ_mul]] at hRn
     have HRn:=zH hRn;obtain ⟨F,hF⟩:∃ F:Nat -> Nat,F=fun j=>li.getD (k*B+j) 0:=⟨_,rfl⟩
     have HCR:=zH (show (List.range B).map F=Ir B li k by rw [hF];rfl)
     have HFL:=zH (show ∀ j,F j<18446744073709551616 from fun j=>by
      rw [hF];show li.getD (k*B+j) 0<_
      rw [Fb];cases h:li[k*B+j]? with
      | none=>decide
      | some x=>exact HLTL.out x (List.mem_of_getElem? h))
     have hkp:k+1 <= p:=by
      have h1:k*B<li.length:=by
       have h2:(li.drop (k*B)).length=li.length-k*B:=ti;have:=cq.out;omega
      rw [HQi.out];refine (Nat.le_div_iff_mul_le zO).2 ?_;rw [Nat.succ_mul];omega
     rw [<- hF] at rA;have q3:(0:Int)<=t:=by omega
     have q4:(t:Int)<=ns:=by omega
     have Sd:ns <= c':=HR2.out.1;have q5:(ns:Int)<=c':=by omega
     have NA:=setRow_heap w2 wo.1.size _ (Qa B F) _ _ kg;have NI:=below_setRow BF zR (Qa B F);clear hRn hF kg BF ht;by_cases sA:c'=t
     all_goals
      first | (obtain rfl:=sA;have HR3:=zH HRn.out;rw [Ka rfl,show ns-c'=0 by omega,show c'-c'=0 by omega] at HR3) | (have HR3:=zH HRn.out;rw [ya sA] at HR3)
      clear HRn;go_upto_region 8 with fail
      clear rA;generalize w2.setRow _ _=w3 at NA NI |-;replace kl:=ia kl NI;replace da:=ma da NI;replace Yk:=zb Yk NI.size;replace Ca:=Mc Ca NI zR;replace Wa:=yC Wa NI;have hx:=MR (N:=N) (gb:=v.ownBlock) NA (fun j _=>HFL.out j) (by simp [maxLen];omega) hgN (fun e=>by have:=Uc _ e.symm;omega)
      rw [HCR.out] at hx;clear NA;go_wp2_with (at_builtin;refine Ok rfl _ _ rfl fA rfl (Ca.alloc _) rfl (sx _ _ _) (by intro u hu;simp at hu;subst hu;rfl) zO zT ?_)
      intro v' wn Tb Va Cc;have ja:=zA w3 (.cells #[ve (vE ⟨wo.1.size,0,vD⟩) B B] 28);replace Wa:=yC Wa ja;replace hx:=YD hx ja.size (fun b _ h2 _=>ja.block b h2)
      have Iy:=N4 Wa hx Va (by simpa using Cc)
      rw [HVN1.out] at Iy;have qy:=Sp (Ca.alloc _) Va zT;have Qe:w.1.size <= N:=by omega
      have hvN:∀ q,v.ownBlock=vE q -> N <= q:=fun q e=>(Ca.lt q e).1
      replace kl:=ia kl ja;replace da:=ma da ja;replace Yk:=zb Yk ja.size;replace kl:=kl.grown Va (fun e=>by first | (have:=hvN _ e;omega) | (have:=hvN _ e.symm;omega))
      replace da:=da.trans (qy.mono Qe);replace Yk:=zb Yk Va.size;clear Va Cc qy ja Ca Wa hx NI;go_wp2
      go_roundw
      case rel=>exact ⟨k+1,n1+1,_,_,_,_,_,rfl,rfl,HR3,hkp,zO,kl,Tb,Iy,da,Yk⟩
      case measure=>simp [lenV];omega
    ·have q2:¬((0:Int)<ns):=by omega
     have hkp:k=p:=by
      have h2:(li.drop (k*B)).length=li.length-k*B:=ti;have h3:=cq.out;have h4:=HQi.out;have h5:(li.length+B-1) / B <= k:=by
       have:li.length+B-1<(k+1)*B:=by rw [Nat.succ_mul];omega
       have:=(Nat.div_lt_iff_lt_mul zO).2 this;omega
      omega
     subst hkp;rw [<- qK.out] at Wa;go_wp2_with fail
     go_roundw
     case rel=>exact ⟨i+1,n1,_,cs,rfl,zO,by go_num,zO,kl,Ca,Wa,da,Yk⟩
     case measure=>simp [intOf];omega
  ·obtain rfl:i=4:=by omega
   rw [<- HBL.out] at Wa;go_wp2;go_ret
   exact ⟨_,rfl,zAO Wa Ca HWN.out HWN.out,da⟩
def rB (p pu x:Nat) (f:Nat -> Nat) (t:Int × Nat):Nat -> Nat :=
 if 0 <= t.1-1-(pu:Int) then Cf f (t.1-1-(pu:Int)).toNat ((f (t.1-1-(pu:Int)).toNat+tg p (x*t.2%p))%p) else f
def ux (p pu x:Nat) (f:Nat -> Nat) (ts:List (Int × Nat)):Nat -> (Nat -> Nat)
 | 0=>f
 | t+1=>rB p pu x (ux p pu x f ts t) (ts.getD t (0,0))
def dB (p pu n La:Nat) (r:Ua) (i:Nat) (f:Nat -> Nat):Nat -> (Nat -> Nat)
 | 0=>f
 | j+1=>ux p pu (La^(j*n+i)%p) (dB p pu n La r i f j) (Ec r j) (Ec r j).length
def dK (p pu n La:Nat) (rows:List Ua):Nat -> (Nat -> Nat)
 | 0=>fun _=>0
 | i+1=>dB p pu n La (rows.getD i ⟨[],[],[]⟩) i (dK p pu n La rows i) 3
def uh (p n La k:Nat):List Nat:=(List.range n).map fun i=>La^(k*n+i)%p
def Uv (L:Na) (pu La:Nat) (rows:List Ua):List (List Nat) :=
 rq L.block (Df ((List.range L.secret).map (dK L.p pu rows.length La rows rows.length)) (uh L.p rows.length La 0) (uh L.p rows.length La 1) (uh L.p rows.length La 2)) (Df L.a L.b L.b L.b)
theorem dO {w:vw} {A:Option vy} {n c k:Nat} {l:List Nat} (h:RWd w [ve A n c] l) (hk:k <= n):RWd w [ve A k c] (l.take k):=by
 obtain ⟨hn,hc,hm,ta,hr⟩:=Ob h;exact ⟨_,_,_,rfl,zO,hm,zIc hr hk,fun x hx=>ta x (List.mem_of_mem_take hx)⟩
theorem zAZ {w:vw} {v0 v1 v2 v3:vx} {l0 l1 l2 l3:List Nat} (h0:RWd w [v0] l0) (h1:RWd w [v1] l1) (h2:RWd w [v2] l2) (h3:RWd w [v3] l3):∀ i,i<4 -> RWd w [Df v0 v1 v2 v3 i] (Df l0 l1 l2 l3 i):=fun i h=>by
 rcases (show i=0 \/ i=1 \/ i=2 \/ i=3 by omega) with rfl | rfl | rfl | rfl
 ·exact h0
 ·exact h1
 ·exact h2
 ·exact h3
def Wx (vars:Int) (rows:List Ua):Prop:=∀ r∈rows,∀ k,k<3 -> ∀ t∈Ec r k,0 <= t.1 /\ t.1<vars
theorem T0 {p:Nat}:∀ (j:Nat) (x:Int) (t:Nat),t<j -> Cg p (x^(2^t)) (-1) -> Cg p (Cb (fun _=>1) x (2^j)) 0
 | 0,_,t,ht,_=>absurd ht (Nat.not_lt_zero t)
 | j+1,x,t,ht,hx=>by
  rw [show 2^(j+1)=2*2^j by rw [Sf,ye],bU]
  show Cg p (Cb (fun _=>1) (x*x) (2^j)+x*Cb (fun _=>1) (x*x) (2^j)) 0
  cases t with
  | zero =>
   rw [Nat.pow_zero,Jj,Int.pow_zero,mo] at hx;exact (Cg.rfl'.add (hx.mul Cg.rfl')).trans (Cg.of_eq zO)
  | succ t =>
   have ih:=T0 j (x*x) t zO (by
    refine Cg.trans (Cg.of_eq ?_) hx;rw [show x*x=x^2 by rw [Jj,Jj,Int.pow_zero,mo],<- Sh]
    congr 1
    rw [Sf,ye])
   exact (ih.add (Cg.rfl'.mul ih)).trans (Cg.of_eq zO)
theorem E8:∀ o:Nat,(-1:Int)^(2*o+1)=-1
 | 0=>zD
 | o+1=>by rw [show 2*(o+1)+1=(2*o+1)+1+1 by omega,Jj,Jj,E8 o];decide
theorem zA7 {p:Nat}:∀ (j:Nat) (w:Int) (d:Nat),Cg p (w^(2^(j-1))) (-1) -> 0<d -> d<2^j -> ∃ t,t<j /\ Cg p ((w^d)^(2^t)) (-1)
 | 0,_,d,_,h0,h1=>zO
 | j+1,w,d,hw,h0,h1=>by
  rcases Nat.mod_two_eq_zero_or_one d with h | h
  ·obtain ⟨e,rfl⟩:∃ e,d=2*e:=⟨d / 2,zO⟩
   have hj:j≠0:=by rintro rfl;omega
   have he:e<2^j:=by rw [Sf] at h1;omega
   obtain ⟨t,ht,hc⟩:=zA7 j (w^2) e (by
    refine Cg.trans (Cg.of_eq ?_) hw;rw [<- Sh]
    congr 1
    show 2*2^(j-1)=2^j
    rw [ye,<- Sf]
    congr 1
    omega) zO he
   exact ⟨t,zO,by rw [Sh (a:=w)];exact hc⟩
  ·obtain ⟨o,rfl⟩:∃ o,d=2*o+1:=⟨d / 2,zO⟩
   refine ⟨j,zO,?_⟩;rw [<- Sh,ye,Sh];exact (Cg.pow hw _).trans (Cg.of_eq (E8 o))
theorem aX {p j d:Nat} {w:Int} (hw:Cg p (w^(2^(j-1))) (-1)) (h0:0<d) (h1:d<2^j):Cg p (Cb (fun _=>1) (w^d) (2^j)) 0:=by
 obtain ⟨t,ht,hc⟩:=zA7 j w d hw h0 h1;exact T0 j _ t ht hc
def Pa (f:Nat -> Int):Nat -> Int
 | 0=>0
 | n+1=>Pa f n+f n
theorem Wv (a:Nat -> Int) (x:Int):∀ n,Cb a x n=Pa (fun i=>a i*x^i) n
 | 0=>rfl
 | n+1=>by rw [Cb,Pa,Wv a x n]
theorem Wi {p:Nat} {f g:Nat -> Int}:∀ n,(∀ i,i<n -> Cg p (f i) (g i)) -> Cg p (Pa f n) (Pa g n)
 | 0,_=>Cg.rfl'
 | n+1,h=>(Wi n fun i hi=>h i zO).add (h n zO)
theorem tz (c:Int) (f:Nat -> Int):∀ n,c*Pa f n=Pa (fun i=>c*f i) n
 | 0=>by simp [Pa]
 | n+1=>by rw [Pa,Pa,Int.mul_add,tz c f n]
theorem ML (f g:Nat -> Int):∀ n,Pa (fun i=>f i+g i) n=Pa f n+Pa g n
 | 0=>rfl
 | n+1=>by rw [Pa,Pa,Pa,ML f g n];omega
theorem dE:∀ n,Pa (fun _=>0) n=0
 | 0=>rfl
 | n+1=>by rw [Pa,dE n];rfl
theorem pB (f:Nat -> Nat -> Int) (m:Nat):∀ n,Pa (fun i=>Pa (fun k=>f i k) m) n=Pa (fun k=>Pa (fun i=>f i k) n) m
 | 0=>by simp only [Pa];rw [dE]
 | n+1=>by
  rw [Pa,pB f m n,<- ML]
  rfl
theorem zBf {p n q:Nat} {f:Nat -> Int} {y:Int} (hq:q<n) (h0:∀ k,k<n -> k≠q -> Cg p (f k) 0) (h1:Cg p (f q) y):Cg p (Pa f n) y:=by
 induction n with
 | zero=>omega
 | succ n ih =>
  rw [Pa];by_cases e:q=n
  ·subst e
   have hz:Cg p (Pa f q) (Pa (fun _=>0) q):=Wi q fun i hi=>h0 i zO zO
   rw [dE] at hz;exact (hz.add h1).trans (Cg.of_eq zO)
  ·exact ((ih zO fun k hk Sa=>h0 k zO Sa).add (h0 n zO zO)).trans (Cg.of_eq zO)
theorem WT:∀ n:Nat,Cb (fun _=>1) 1 n=(n:Int)
 | 0=>rfl
 | n+1=>by rw [Cb,WT n,Int.one_pow];omega
theorem R4 {p j:Nat} {w v:Int} (hw:Cg p (w^(2^(j-1))) (-1)) (hv:Cg p (w*v) 1):Cg p (v^(2^(j-1))) (-1):=by
 have h1:=hv.pow (2^(j-1));rw [Int.mul_pow,Int.one_pow] at h1;have h2:=((hw.mul (Cg.rfl' (x:=v^(2^(j-1))))).symm.trans h1).neg;exact Cg.trans (Cg.of_eq zO) h2
theorem qQ {p:Nat} {w v:Int} (hv:Cg p (w*v) 1) (q:Nat):Cg p (v^q*w^q) 1:=by
 rw [<- Int.mul_pow,ik v w];exact (hv.pow q).trans (Cg.of_eq Int.one_pow)
theorem zE8 {p n j:Nat} (m:Nat -> Int) (w v s:Int) (hn:n=2^j) (hw:j=0 \/ Cg p (w^(2^(j-1))) (-1)) (hv:Cg p (w*v) 1) (hs:Cg p ((n:Int)*s) 1) (q:Nat) (hq:q<n) :
  Cg p (Cb (fun i=>s*Cb m (v^i) n) (w^q) n) (m q):=by
 have hx:∀ k,k<n -> k≠q -> Cg p (Cb (fun _=>1) (v^k*w^q) n) 0:=by
  intro k hk Sa;have hj:j≠0:=by rintro rfl;omega
  have Lh:Cg p (w^(2^(j-1))) (-1):=hw.resolve_left hj;rcases Nat.lt_or_gt_of_ne Sa with h | h
  ·have e:Cg p (v^k*w^q) (w^(q-k)):=by
    obtain ⟨d,rfl⟩:∃ d,q=k+d:=⟨q-k,zO⟩;rw [TB,Int.pow_add,<- Xo];exact ((qQ hv k).mul Cg.rfl').trans (Cg.of_eq (mo _))
   rw [hn];exact (yp (fun _=>Cg.rfl') e _).trans (aX Lh zO zO)
  ·have e:Cg p (v^k*w^q) (v^(k-q)):=by
    obtain ⟨d,rfl⟩:∃ d,k=q+d:=⟨k-q,zO⟩;rw [TB,Int.pow_add,Xo,ik (v^d),<- Xo];exact ((qQ hv q).mul Cg.rfl').trans (Cg.of_eq (mo _))
   rw [hn];exact (yp (fun _=>Cg.rfl') e _).trans (aX (R4 Lh hv) zO zO)
 have Ek:Cg p (Cb (fun _=>1) (v^q*w^q) n) (n:Int):=(yp (fun _=>Cg.rfl') (qQ hv q) n).trans (Cg.of_eq (WT n))
 have e1:Cb (fun i=>s*Cb m (v^i) n) (w^q) n=Pa (fun k=>s*m k*Cb (fun _=>1) (v^k*w^q) n) n:=by
  rw [Wv];have e2:(fun i=>s*Cb m (v^i) n*(w^q)^i)=fun i=>Pa (fun k=>s*m k*(v^k*w^q)^i) n:=by
   funext i
   rw [Wv,ik (s*_),<- Xo,tz]
   congr 1
   funext k
   rw [Int.mul_pow,<- Sh (a:=v),<- Sh (a:=v),ye i k]
   grind
  rw [e2,pB]
  congr 1
  funext k
  rw [Wv,tz]
  congr 1
  funext i
  rw [mo]
 rw [e1];refine zBf hq (fun k hk Sa=>?_) ?_
 ·exact (Cg.rfl'.mul (hx k hk Sa)).trans (Cg.of_eq (Int.mul_zero _))
 ·refine (Cg.rfl'.mul Ek).trans (Cg.trans (Cg.of_eq (y:=(n:Int)*s*m q) (by grind)) ?_)
  exact (hs.mul Cg.rfl').trans (Cg.of_eq (mo _))
theorem pQ {p n j:Nat} (l:List Nat) (h:Jb p=true) (hn:Tk p n) (hj:n=2^j) {i:Nat} (hi:i<n) :
  Cg p (Dn p n j l i:Int) (((n^(p-2)%p:Nat):Int)*Cb (fun k=>((l.getD k 0:Nat):Int)) (((Ee p n^(p-2)%p:Nat):Int)^i) n):=by
 have hp:=Rb h;have hv:j=0 \/ Cg p (((Ee p n^(p-2)%p:Nat):Int)^(2^(j-1))) (-1):=(ER h hn hj).imp id fun h1=>R4 h1 (tV h hn)
 have h1:=AP p zO j (YJ p l) (Ee p n^(p-2)%p) hv i zO;rw [<- hj] at h1;refine (Cg.mod _).trans ?_;rw [Qf,ik];exact Cg.rfl'.mul (h1.trans (yp (fun k=>Cg.mod _) Cg.rfl' n))
theorem N0 {p:Nat} {a b:Nat -> Int} (x:Int):∀ n,(∀ i,i<n -> Cg p (a i) (b i)) -> Cg p (Cb a x n) (Cb b x n)
 | 0,_=>Cg.rfl'
 | n+1,h=>(N0 x n fun i hi=>h i zO).add ((h n zO).mul Cg.rfl')
theorem sV {p n j:Nat} (l:List Nat) (h:Jb p=true) (hn:Tk p n) (hj:n=2^j) {q:Nat} (hq:q<n) :
  Cg p (Cb (fun i=>(Dn p n j l i:Int)) ((Ee p n:Int)^q) n) ((l.getD q 0:Nat):Int) :=
 (N0 _ n fun _ hi=>pQ l h hn hj hi).trans (zE8 (fun k=>((l.getD k 0:Nat):Int)) _ _ _ hj (ER h hn hj) (tV h hn) (zFc h hj) q hq)
theorem YT {a b:Nat -> Int} (x:Int):∀ n,(∀ i,i<n -> a i=b i) -> Cb a x n=Cb b x n
 | 0,_=>rfl
 | n+1,h=>by rw [Cb,Cb,YT x n fun i hi=>h i zO,h n zO]
theorem uP (a:Nat -> Nat) (k v:Nat) (x:Int):∀ n,k<n -> Cb (fun i=>(Cf a k v i:Int)) x n=Cb (fun i=>(a i:Int)) x n+((v:Int)-a k)*x^k
 | 0,h=>zO
 | n+1,h=>by
  rw [Cb,Cb];by_cases e:k=n
  ·subst e
   rw [YT (b:=fun i=>(a i:Int)) x k fun i hi=>by simp only [Cf];rw [ya zO]]
   simp only [Cf,if_true]
   grind
  ·rw [uP a k v x n zO]
   simp only [Cf];rw [ya zO];omega
theorem VX {p b:Nat} (hp:0<p) (l:List Nat) (x:Int) (m:Nat):∀ i,i <= m -> Cg p (Cb (fun k=>(Hg p b l i k:Int)) x (b+m)) ((x^b-1)*Cb (fun k=>((l.getD k 0:Nat):Int)) x i)
 | 0,_=>by
  refine Cg.of_eq ?_;show Cb (fun k=>((0:Nat):Int)) x (b+m)=(x^b-1)*0
  rw [Wv,Int.mul_zero,<- dE (b+m)]
  congr 1
  funext k
  simp
 | i+1,hi=>by
  have ih:=VX hp (b:=b) l x m i zO;rw [Hg];rw [uP _ _ _ _ _ zO,uP _ _ _ _ _ zO,Cb];generalize Cf (Hg p b l i) i ((Hg p b l i i+tg p (l.getD i 0))%p)=v;have h1:Cg p (((Hg p b l i i+tg p (l.getD i 0))%p:Nat)-(Hg p b l i i:Int)) (-((l.getD i 0:Nat):Int)):=by
   have:=((Cg.mod (p:=p) (Hg p b l i i+tg p (l.getD i 0))).trans (Cg.trans (Cg.of_eq (um _ _)) (Cg.rfl'.add (ID p (l.getD i 0) hp)))).add (Cg.rfl' (x:=-(Hg p b l i i:Int)));exact Cg.trans (Cg.of_eq zO) (this.trans (Cg.of_eq zO))
  have h2:Cg p (((v (b+i)+l.getD i 0)%p:Nat)-(v (b+i):Int)) ((l.getD i 0:Nat):Int):=by
   have:=((Cg.mod (p:=p) (v (b+i)+l.getD i 0)).trans (Cg.of_eq (um _ _))).add (Cg.rfl' (x:=-(v (b+i):Int)));exact Cg.trans (Cg.of_eq zO) (this.trans (Cg.of_eq zO))
  refine ((ih.add (h1.mul Cg.rfl')).add (h2.mul Cg.rfl')).trans (Cg.of_eq ?_);rw [Int.pow_add]
  grind
theorem zBM {p b:Nat} (hp:0<p) (hb:0<b) (l:List Nat):∀ i k,Cg p (Hg p b l i k:Int) ((if b <= k /\ k<b+i then ((l.getD (k-b) 0:Nat):Int) else 0)-(if k<i then ((l.getD k 0:Nat):Int) else 0))
 | 0,k=>by
  rw [ya zO,ya zO];exact Cg.of_eq rfl
 | i+1,k=>by
  have ih:=zBM hp hb l i;rw [Hg];simp only [Cf];by_cases h1:k=b+i
  ·subst h1
   rw [Ka rfl,ya zO,Ka zO,TB];have h:=ih (b+i);rw [ya zO] at h;refine (Cg.mod _).trans (Cg.trans (Cg.of_eq (um _ _)) ?_);by_cases h2:b+i<i+1
   ·omega
   ·rw [ya h2]
    rw [ya zO] at h;exact (h.add Cg.rfl').trans (Cg.of_eq zO)
  ·rw [ya h1]
   by_cases h2:k=i
   ·subst h2
    rw [Ka rfl,Ka (show k<k+1 by omega)]
    have h:=ih k;rw [ya (by omega:¬k<k)] at h
    refine (Cg.mod _).trans (Cg.trans (Cg.of_eq (um _ _)) ?_);have e:(if b <= k /\ k<b+(k+1) then ((l.getD (k-b) 0:Nat):Int) else 0)=(if b <= k /\ k<b+k then ((l.getD (k-b) 0:Nat):Int) else 0):=by
     by_cases h3:b <= k
     ·rw [Ka zO,Ka zO]
     ·rw [ya zO,ya zO]
    rw [e];exact (h.add (ID p _ hp)).trans (Cg.of_eq zO)
   ·rw [ya h2]
    have h:=ih k;refine h.trans (Cg.of_eq ?_)
    congr 1
    ·by_cases h3:b <= k /\ k<b+i
     ·rw [Ka h3,Ka zO]
     ·rw [ya h3,ya zO]
    ·by_cases h3:k<i
     ·rw [Ka h3,Ka zO]
     ·rw [ya h3,ya zO]
theorem rY (p b i:Nat):(Ss p b).getD i 0=if i<b+1 then sS p b i else 0:=Yl _ _ _
theorem a8 {p b:Nat} (hp:1<p) (hb:0<b) (m:List Nat) (i:Nat):∀ j,j<b -> Cg p ((Ik p (Ss p b) m (j+1)).getD i 0:Int) (-((m.getD i 0:Nat):Int))
 | 0,_=>by
  have hz:(Ss p b).getD 0 0=p-1:=by rw [rY,Ka zO];rfl
  rw [Ik,Iu,fO,ya zO,cK,hz];have e0:(Ik p (Ss p b) m 0).getD i 0=0:=by rw [Ik];rfl
  rw [e0,Nat.sub_zero];refine (Cg.mod _).trans ?_;rw [Nj];refine (Cg.mod _).trans ?_;rw [Qf];have h1:Cg p ((p-1:Nat):Int) (-1):=⟨1,zO⟩;exact ((Cg.rfl' (x:=((m.getD i 0:Nat):Int))).mul h1).trans (Cg.of_eq zO)
 | j+1,hj=>by
  have hz:(Ss p b).getD (j+1) 0=0:=by
   rw [rY,Ka zO,sS,ya zO,ya zO]
  rw [zFY _ _ _ _ hz];exact (Cg.mod _).trans (a8 hp hb m i j zO)
theorem zF1 {p b:Nat} (hp:1<p) (hb:0<b) (m:List Nat) (i:Nat):Cg p ((zl p (Ss p b) m).getD i 0:Int) ((if b <= i then ((m.getD (i-b) 0:Nat):Int) else 0)-((m.getD i 0:Nat):Int)):=by
 have hz:(Ss p b).getD b 0=1:=by rw [rY,Ka zO,sS,ya zO,Ka rfl]
 obtain ⟨c,rfl⟩:∃ c,b=c+1:=⟨b-1,zO⟩;rw [zl,sY,Ik,Iu,fO,cK,hz,fp];have h:=a8 hp hb m i c zO;refine (Cg.mod _).trans (Cg.trans (Cg.of_eq (um _ _)) ?_);by_cases h1:i<c+1
 ·rw [Ka h1,ya zO]
  exact (h.add Cg.rfl').trans (Cg.of_eq zO)
 ·rw [ya h1,Ka zO]
  exact (h.add (Cg.mod _)).trans (Cg.of_eq zO)
theorem b8 {p b:Nat} (hp:1<p) (hb:0<b) (m:List Nat) (i:Nat):(zl p (Ss p b) m).getD i 0=Hg p b m m.length i:=by
 refine Cg.eq (p:=p) ((zF1 hp hb m i).trans (Cg.trans (Cg.of_eq ?_) (zBM zO hb m m.length i).symm)) (zFZ zO _ _ _ _) (qE zO _ _ _)
 congr 1
 ·by_cases h1:b <= i
  ·rw [Ka h1]
   by_cases h2:i<b+m.length
   ·rw [Ka ⟨h1,h2⟩]
   ·rw [ya zO,PK zO];rfl
  ·rw [ya h1,ya zO]
 ·by_cases h1:i<m.length
  ·rw [Ka h1]
  ·rw [ya h1,PK zO];rfl
theorem yU {p a b:Nat}:∀ k,Cg p (MK p a b k:Int) ((a:Int)*b^k)
 | 0=>Cg.of_eq (by rw [MK,Int.pow_zero,Int.mul_one])
 | k+1=>by
  rw [MK];refine (Cg.mod _).trans ?_;rw [Qf,Jj,<- Xo];exact (yU k).mul Cg.rfl'
theorem OT {p s n:Nat} (k:Nat):Cg p (Th p s n k:Int) ((s:Int)*(Ee p n:Int)^k):=(yU k).trans ((Cg.mod s).mul Cg.rfl')
theorem ZT (a:Nat -> Int) (x:Int):∀ n,Cb a x (n+1)=a 0+x*Cb (fun i=>a (i+1)) x n
 | 0=>by simp [Cb]
 | n+1=>by
  rw [Cb,ZT a x n,Cb,Jj]
  grind
theorem eV {p x:Nat}:∀ l:List Nat,Cg p (Ot p x l:Int) (Cb (fun i=>((l.getD i 0:Nat):Int)) (x:Int) l.length)
 | []=>Cg.rfl'
 | c :: l=>by
  rw [Ot,Jg,ZT];refine (Cg.mod _).trans (Cg.trans (Cg.of_eq (um _ _)) ?_);refine (((Cg.mod (Ot p x l*x)).trans (Cg.trans (Cg.of_eq (Qf _ _)) ((eV l).mul Cg.rfl'))).add Cg.rfl').trans (Cg.of_eq ?_);show Cb (fun i=>((l.getD i 0:Nat):Int)) (x:Int) l.length*(x:Int)+c=(c:Int)+x*Cb (fun i=>((l.getD i 0:Nat):Int)) (x:Int) l.length
  rw [ik,Int.add_comm]
theorem zAj {p x:Nat}:∀ k,Cg p (eh p x k:Int) ((x:Int)^k)
 | 0=>Cg.rfl'
 | k+1=>by
  rw [eh];refine (Cg.mod _).trans ?_;rw [Qf,Jj];exact (zAj k).mul Cg.rfl'
theorem X0 {p x:Nat} (l:List Nat):∀ k,Cg p (evS p l (eh p x) k:Int) (Cb (fun i=>((l.getD i 0:Nat):Int)) (x:Int) k)
 | 0=>Cg.rfl'
 | k+1=>by
  rw [evS,Cb];refine (Cg.mod _).trans (Cg.trans (Cg.of_eq (um _ _)) ?_);refine (X0 l k).add ((Cg.mod _).trans ?_);rw [Qf];exact Cg.rfl'.mul (zAj k)
theorem IK {p x:Nat} (l:List Nat):Cg p (Vc p l x:Int) (Cb (fun i=>((l.getD i 0:Nat):Int)) (x:Int) l.length):=X0 l _
theorem Qu {p:Nat} (hp:0<p) (l:List Nat) (x:Nat):Vc p l x<p:=by
 rw [Vc];cases l.length with
 | zero=>exact hp
 | succ k=>exact mc _ hp
theorem zFb {p n i:Nat} {w v:Int} (h1:Cg p (w^n) 1) (h2:Cg p (w*v) 1) (hi:i<n):Cg p (w^((n-i)%n)) (v^i):=by
 have h3:Cg p (w^((n-i)%n)*w^i) 1:=by
  rcases dp i with h | h
  ·subst h
   rw [Nat.sub_zero,Nat.mod_self];exact Cg.of_eq zS
  ·rw [qj zO,<- Int.pow_add,show n-i+i=n by omega]
   exact h1
 have h4:=qQ h2 i;have h5:Cg p (w^((n-i)%n)) (w^((n-i)%n)*(v^i*w^i)):=(Cg.of_eq (Int.mul_one _).symm).trans (Cg.rfl'.mul h4.symm);refine h5.trans ((Cg.of_eq ?_).trans ((h3.mul Cg.rfl').trans (Cg.of_eq (mo _))));rw [ik (v^i),Xo]
theorem S5 {p j:Nat} (l:List Nat) (h:Jb p=true) (hn:Tk p l.length) (hj:l.length=2^j) {i:Nat} (hi:i<l.length):oQ p l 1 i=Dn p l.length j l i:=by
 have hp:=Rb h;refine Cg.eq (p:=p) ?_ (mc _ zO) (mc _ zO);refine Cg.trans ?_ (pQ l h hn hj hi).symm;refine (Cg.mod _).trans ?_;rw [Qf,ik];have e1:(1%p)^(p-2)%p=1:=by rw [qj (show 1<p by omega),Nat.one_pow,qj zO]
 rw [e1];refine Cg.mul ((yU i).trans (Cg.of_eq ?_)) ?_
 ·rw [show ((1:Nat):Int)=1 from rfl,Int.one_pow,Int.mul_one]
 ·rw [intE]
  refine (eV l).trans (yp (fun _=>Cg.rfl') ?_ _)
  refine (OT _).trans (Cg.trans (Cg.of_eq ?_) (zFb (FR h hn) (tV h hn) hi));exact mo _
def RA (L:Na) (msg Bf:List Nat):List Nat:=(List.range (L.block+Bf.length)).map (uv L msg Bf)
def UD (L:Na) (q:List Nat):List Nat:=(List.range (L.block+q.length)).map (Hg L.p L.block q q.length)
theorem zIr {L:Na} (hL:Nb L) {msg Bf:List Nat} (h1:msg.length=L.block) (h2:Bf.length=L.queries):cO L msg Bf=RA L msg Bf:=by
 have hp:=Rb hL.p;have hb:=hL.b1;have hk:=hL.k;obtain ⟨hlen,j,hj⟩:=Vy hL;have Xu:L.block.log2=j:=by rw [hj];exact Sz
 have Bk:(cO L msg Bf).length=L.block+Bf.length:=by
  rw [cO,wL];have h3:=Xx L.p ((List.range msg.length).map (oQ L.p msg 1)) (zl L.p (Ss L.p L.block) Bf);have h4:=DN L.p (Ss L.p L.block) Bf;rw [sY] at h4;rw [Zm,Yo] at h3;omega
 refine zG (by rw [Bk,RA,Zm,Yo]) fun i hi=>?_
 rw [Bk] at hi;rw [cO,vL,Iu,Yl,b8 zO zO,RA,Yl,Ka hi,uv,LG];by_cases h3:i<L.block
 ·rw [Ka zO,Ka h3,Xu,S5 (j:=j) msg hL.p (by rw [h1];exact hlen) (by rw [h1];exact hj) zO,h1,Nat.add_comm]
 ·rw [ya zO,ya h3,Nj]
  exact qj (qE zO _ _ _)
theorem wR {L:Na} (hL:Nb L) {q:List Nat} (h:q.length=L.block+2*L.queries-1):qx L q=UD L q:=by
 have hp:=Rb hL.p;have hb:=hL.b1;have hk:=hL.k;have Bk:(qx L q).length=L.block+q.length:=by
  rw [qx,wL];have h4:=DN L.p (Ss L.p L.block) q;rw [sY] at h4;omega
 refine zG (by rw [Bk,UD,Zm,Yo]) fun i hi=>?_
 rw [Bk] at hi;rw [qx,vL,b8 zO zO,UD,Yl,Ka hi]
theorem U0 {p nb:Nat} (A B:Nat -> Nat) (x:Int):∀ n,Cg p (Cb (fun k=>(LG p nb A B k:Int)) x n) (Cb (fun k=>(A k:Int)) x n+Cb (fun k=>(B k:Int)) x (min n nb))
 | 0=>by rw [Nat.zero_min];exact Cg.rfl'
 | n+1=>by
  have ih:=U0 A B x (p:=p) (nb:=nb) n;rw [Cb,Cb];by_cases h:n<nb
  ·rw [show min (n+1) nb=n+1 by omega,Cb,LG,Ka h]
   rw [show min n nb=n by omega] at ih
   refine (ih.add (((Cg.mod (A n+B n)).trans (Cg.of_eq (um _ _))).mul (Cg.rfl' (x:=x^n)))).trans (Cg.of_eq ?_);rw [Int.add_mul];omega
  ·rw [show min (n+1) nb=nb by omega,LG,ya h]
   rw [show min n nb=nb by omega] at ih
   exact (ih.add Cg.rfl').trans (Cg.of_eq zO)
theorem XT (f:Nat -> Nat) (x:Int) (n:Nat):Cb (fun i=>((((List.range n).map f).getD i 0:Nat):Int)) x n=Cb (fun i=>(f i:Int)) x n :=
 YT x n fun i hi=>by rw [Yl,Ka hi]
theorem ZW {p n:Nat} (h:Jb p=true) (hn:Tk p n) (k:Nat):Cg p (((Ee p n:Int)^k)^n) 1:=by
 rw [<- Sh,ye,Sh];exact ((FR h hn).pow k).trans (Cg.of_eq Int.one_pow)
theorem yM {p n k:Nat}:Cg p (Th p 1 n k:Int) ((Ee p n:Int)^k):=OT k |>.trans (Cg.of_eq (mo _))
theorem W6 {p:Nat} {x:Int} (h:Cg p x 1):Cg p (x-1) 0:=by
 obtain ⟨c,hc⟩:=h;exact ⟨c,by rw [<- hc];omega⟩
theorem zIt {L:Na} (hL:Nb L) {msg Bf:List Nat} (hm:∀ i,msg.getD i 0<L.p) {k:Nat} (hk:k<L.block):Vc L.p (RA L msg Bf) (Th L.p 1 L.block k)=msg.getD k 0:=by
 have hp:=Rb hL.p;obtain ⟨hlen,j,hj⟩:=Vy hL;have Xu:L.block.log2=j:=by rw [hj];exact Sz
 refine Cg.eq (p:=L.p) ?_ (Qu zO _ _) (hm k);refine (IK _).trans ?_;have hl:(RA L msg Bf).length=L.block+Bf.length:=by rw [RA,Zm,Yo]
 rw [hl,RA,XT];refine (yp (fun _=>Cg.rfl') yM _).trans ?_
 refine (U0 _ _ _ _).trans ?_;rw [show min (L.block+Bf.length) L.block=L.block by omega]
 have hv:=VX (p:=L.p) (b:=L.block) zO Bf ((Ee L.p L.block:Int)^k) Bf.length Bf.length zR;have h0:Cg L.p (((Ee L.p L.block:Int)^k)^L.block-1) 0:=W6 (ZW hL.p hlen k);have hi:=sV (q:=k) msg hL.p hlen hj hk;rw [Xu];refine ((hv.trans (h0.mul Cg.rfl')).add hi).trans (Cg.of_eq ?_);rw [Int.zero_mul,Int.zero_add]
theorem zHW {L:Na} (hL:Nb L) (q:List Nat) (k:Nat):Vc L.p (UD L q) (Th L.p 1 L.block k)=0:=by
 have hp:=Rb hL.p;obtain ⟨hlen,j,hj⟩:=Vy hL;refine Cg.eq (p:=L.p) ?_ (Qu zO _ _) zO;refine (IK _).trans ?_;have hl:(UD L q).length=L.block+q.length:=by rw [UD,Zm,Yo]
 rw [hl,UD,XT];refine (yp (fun _=>Cg.rfl') yM _).trans ?_
 have hv:=VX (p:=L.p) (b:=L.block) zO q ((Ee L.p L.block:Int)^k) q.length q.length zR;have h0:Cg L.p (((Ee L.p L.block:Int)^k)^L.block-1) 0:=W6 (ZW hL.p hlen k);refine (hv.trans (h0.mul Cg.rfl')).trans (Cg.of_eq ?_);rw [Int.zero_mul]
 rfl
def WG (p:Nat) (f:Nat -> Nat):Nat -> Nat
 | 0=>0
 | k+1=>(WG p f k+f k)%p
theorem YR {p:Nat} (f:Nat -> Nat):∀ k,Cg p (WG p f k:Int) (Pa (fun i=>(f i:Int)) k)
 | 0=>Cg.rfl'
 | k+1=>by
  rw [WG,Pa];exact (Cg.mod _).trans (Cg.trans (Cg.of_eq (um _ _)) ((YR f k).add Cg.rfl'))
theorem zBh {p:Nat} (hp:0<p) (f:Nat -> Nat):∀ k,WG p f k<p
 | 0=>hp
 | _+1=>mc _ hp
theorem zAk {p n:Nat} {x:Int} (h:Cg p (x^n) 1) (i:Nat):Cg p (x^i) (x^(i%n)):=by
 have e:=Eu i n;rw [<- e];rw [Int.pow_add,Sh,Nat.mul_add_mod,Nat.mod_mod];exact ((h.pow _).mul Cg.rfl').trans (Cg.of_eq (by rw [Int.one_pow,mo]))
theorem zGo {p n:Nat} (h:Jb p=true) (hn:Tk p n) (i:Nat):Cg p (Cb (fun _=>1) ((Ee p n:Int)^i) n) (if i%n=0 then (n:Int) else 0):=by
 obtain ⟨j,hj⟩:=hn.two;have h1:=zAk (FR h hn) i;refine (yp (fun _=>Cg.rfl') h1 n).trans ?_
 split
 ·rename_i h0
  rw [h0,Int.pow_zero];exact Cg.of_eq (WT n)
 ·rename_i h0
  have ta:i%n<n:=mc _ hn.pos;rcases ER h hn hj with h2 | h2
  ·subst h2
   rw [hj] at h0 ta;omega
  ·have:=aX (p:=p) (j:=j) (d:=i%n) h2 zO (by rw [<- hj];exact ta)
   rw [<- hj] at this;exact this
theorem zJe {p n m:Nat} (h:Jb p=true) (hn:Tk p n) (a:Nat -> Int):Cg p (Pa (fun k=>Cb a ((Ee p n:Int)^k) m) n) ((n:Int)*Pa (fun i=>if i%n=0 then a i else 0) m):=by
 have e1:Pa (fun k=>Cb a ((Ee p n:Int)^k) m) n=Pa (fun i=>a i*Cb (fun _=>1) ((Ee p n:Int)^i) n) m:=by
  have e2:(fun k=>Cb a ((Ee p n:Int)^k) m)=fun k=>Pa (fun i=>a i*((Ee p n:Int)^k)^i) m:=by funext k;rw [Wv]
  rw [e2,pB]
  congr 1
  funext i
  rw [Wv,tz]
  congr 1
  funext k
  rw [mo,<- Sh,<- Sh,ye]
 rw [e1,tz];refine Wi m fun i _=>?_
 refine (Cg.rfl'.mul (zGo h hn i)).trans (Cg.of_eq ?_);split
 ·rw [ik]
 ·rw [Int.mul_zero,Int.mul_zero]
theorem DX {g:Nat -> Int} {s:Nat}:∀ t,(∀ i,i<t -> g (s+i)=0) -> Pa g (s+t)=Pa g s
 | 0,_=>rfl
 | t+1,h=>by
  rw [<- Nat.add_assoc,Pa,DX t fun i hi=>h i zO,h t zO]
  omega
theorem zBi {n:Nat} (hn:0<n) (a:Nat -> Int):∀ q,Pa (fun i=>if i%n=0 then a i else 0) (q*n+1)=a 0+Pa (fun k=>a ((k+1)*n)) q
 | 0=>by
  rw [Nat.zero_mul];simp [Pa]
 | q+1=>by
  have h1:=zBi hn a q;have h2:=DX (g:=fun i=>if i%n=0 then a i else 0) (s:=q*n+1) (n-1) fun i hi=>by
   rw [ya];rw [show q*n+1+i=(1+i)+n*q by rw [ye];omega,Nat.add_mul_mod_self_left,qj zO]
   omega
  rw [Nat.succ_mul,show q*n+n+1=(q*n+1+(n-1))+1 by omega,Pa,h2,h1,show q*n+1+(n-1)=(q+1)*n by rw [Nat.succ_mul];omega,Pa]
  rw [Ka (Nat.mul_mod_left _ _)];omega
theorem Y6 {p b:Nat} (hp:0<p) (l:List Nat):∀ q,Cg p (Xy p b l q:Int) (-(Pa (fun k=>((l.getD ((k+1)*b-1) 0:Nat):Int)) q))
 | 0=>Cg.rfl'
 | q+1=>by
  rw [Xy,Pa];refine (Cg.mod _).trans (Cg.trans (Cg.of_eq (um _ _)) ?_);exact ((Y6 hp l q).add (ID p _ hp)).trans (Cg.of_eq zO)
theorem zFv {L:Na} (hL:Nb L) (l:List Nat):WG L.p (fun k=>Vc L.p (Fg L l) (Th L.p 1 L.block k)) L.block=0:=by
 have hp:=Rb hL.p;have hb:=hL.b1;obtain ⟨hlen,j,hj⟩:=Vy hL;refine Cg.eq (p:=L.p) ?_ (zBh zO _ _) zO;refine (YR _ _).trans ?_;refine (Wi (g:=fun k=>Cb (fun i=>(((Fg L l).getD i 0:Nat):Int)) ((Ee L.p L.block:Int)^k) (Fg L l).length) L.block fun k _=>(IK _).trans (yp (fun _=>Cg.rfl') yM _)).trans ?_
 refine (zJe hL.p hlen _).trans ?_;have hl:(Fg L l).length=l.length / L.block*L.block+1+l.length%L.block:=by
  have:=Eu l.length L.block;rw [Fg,Jg,ye];omega
 have hf:=DX (g:=fun i=>if i%L.block=0 then (((Fg L l).getD i 0:Nat):Int) else 0) (s:=l.length / L.block*L.block+1) (l.length%L.block) fun i hi=>by
  have hm:l.length%L.block<L.block:=mc _ zO;rw [ya];rw [show l.length / L.block*L.block+1+i=(1+i)+L.block*(l.length / L.block) by rw [ye];omega,Nat.add_mul_mod_self_left,qj zO]
  omega
 rw [hl,hf,zBi zO];have e0:((((Fg L l).getD 0 0:Nat):Int))=(Xy L.p L.block l (l.length / L.block):Int):=rfl;have e1:(fun k=>(((Fg L l).getD ((k+1)*L.block) 0:Nat):Int))=fun k=>((l.getD ((k+1)*L.block-1) 0:Nat):Int):=by
  funext k
  have:0<(k+1)*L.block:=Nat.mul_pos zO zO;obtain ⟨c,hc⟩:∃ c,(k+1)*L.block=c+1:=⟨(k+1)*L.block-1,zO⟩;rw [hc,Fg,Nat.add_sub_cancel]
  rfl
 rw [e0,e1];refine (Cg.rfl'.mul (((Y6 zO l _).add Cg.rfl').trans (Cg.of_eq (Int.add_left_neg _)))).trans (Cg.of_eq ?_);rw [Int.mul_zero]
 rfl
theorem AY {p n:Nat} (hn:0<n) (l:List Nat) (s:Nat) (x:Int) (hx:Cg p (x^n) 1):∀ i,Cg p (Cb (fun k=>(ym p n l s i k:Int)) x n) (Cb (fun k=>((l.getD k 0:Nat):Int)) ((s:Int)*x) i)
 | 0=>by
  refine Cg.of_eq ?_;show Cb (fun k=>((0:Nat):Int)) x n=0
  rw [Wv,<- dE n]
  congr 1
  funext k
  simp
 | i+1=>by
  have ih:=AY hn l s x hx i;rw [ym,uP _ _ _ _ _ (mc _ hn),Cb];refine ih.add ?_;have h1:Cg p (((ym p n l s i (i%n)+l.getD i 0*Is p s i%p)%p:Nat)-(ym p n l s i (i%n):Int)) (((l.getD i 0:Nat):Int)*(s:Int)^i):=by
   have h2:Cg p ((l.getD i 0*Is p s i%p:Nat):Int) (((l.getD i 0:Nat):Int)*(s:Int)^i):=(Cg.mod _).trans (Cg.trans (Cg.of_eq (Qf _ _)) (Cg.rfl'.mul (rR p s i)));have h3:=((Cg.mod (p:=p) (ym p n l s i (i%n)+l.getD i 0*Is p s i%p)).trans (Cg.trans (Cg.of_eq (um _ _)) (Cg.rfl'.add h2))).add (Cg.rfl' (x:=-(ym p n l s i (i%n):Int)));exact Cg.trans (Cg.of_eq zO) (h3.trans (Cg.of_eq zO))
  refine (h1.mul (zAk hx i).symm).trans (Cg.of_eq ?_);rw [Int.mul_pow,Xo]
theorem eU {p n j s k:Nat} (h:Jb p=true) (hn:Tk p n) (hj:n=2^j) (l:List Nat) (hk:k<n):rk p n j l s k=Vc p l (Th p s n k):=by
 have hp:=Rb h;refine Cg.eq (p:=p) ?_ (xP zO _ _ _ _ _) (Qu zO _ _);have h1:=AP p zO j (ym p n l (s%p) l.length) (Ee p n) (ER h hn hj) k (by rw [<- hj];exact hk)
 rw [<- hj] at h1;refine h1.trans ((AY hn.pos l _ _ (ZW h hn k) _).trans (Cg.trans ?_ (IK l).symm));exact yp (fun _=>Cg.rfl') ((((Cg.mod s).mul Cg.rfl')).trans (OT k).symm) _
theorem zDr (B:Nat) (v:List Nat) (n:Nat):(Dt B v n).length=n:=by simp [Dt]
theorem Vv (B:Nat) (l:Nat -> List Nat) (ps:Nat -> Nat):∀ i,(Nl B l ps (i+1)).length=(Nl B l ps i).length+ps i:=fun i=>by rw [vM,jj,zDr]
theorem TV (L:Na) (rows:List Ua) (ws:List Nat) (pu:Nat):(Hk L rows ws pu).length=L.a+L.b+L.b+L.b:=by
 unfold Hk rq;rw [Vv,Vv,Vv,Vv];show 0+L.a+L.b+L.b+L.b=_
 omega
theorem ZO {B:Nat} {l:Nat -> List Nat} {ps:Nat -> Nat} {r:List Nat} (h:r∈rq B l ps):∃ i k,i<4 /\ k<ps i /\ r=Ir B (l i) k:=by
 unfold rq Nl at h;obtain ⟨i,hi,hr⟩:=List.mem_flatMap.1 h;obtain ⟨k,hk,rfl⟩:=Od.1 hr;exact ⟨i,k,pj.1 hi,pj.1 hk,rfl⟩
theorem V7 {L:Na} {rows:List Ua} {ws:List Nat} {pu:Nat} {r:List Nat} (h:r∈Hk L rows ws pu):r.length=L.block:=by
 obtain ⟨i,k,-,-,rfl⟩:=ZO h;simp [Ir]
theorem fw {l:List Nat} {p:Nat} (hp:0<p) (h:∀ x∈l,x<p) (i:Nat):l.getD i 0<p:=by
 rw [Fb];cases e:l[i]? with
 | none=>exact hp
 | some x=>exact h x (List.mem_of_getElem? e)
theorem zFX {L:Na} {rows:List Ua} {ws:List Nat} {pu:Nat} (hp:0<L.p) (hw:∀ x∈ws,x<L.p) {r:List Nat} (h:r∈Hk L rows ws pu) (j:Nat):r.getD j 0<L.p:=by
 obtain ⟨i,k,hi,-,rfl⟩:=ZO h;rw [Ir,Yl];split
 ·refine fw hp ?_ _
  rcases (show i=0 \/ i=1 \/ i=2 \/ i=3 by omega) with rfl | rfl | rfl | rfl
  ·exact fun x hx=>hw x (List.mem_of_mem_drop hx)
  all_goals
   intro x hx;obtain ⟨r,-,rfl⟩:=Od.1 hx;exact p7 hp _ _
 ·exact hp
end Go.Proofs.YteoghgbnielkpaaGreat
