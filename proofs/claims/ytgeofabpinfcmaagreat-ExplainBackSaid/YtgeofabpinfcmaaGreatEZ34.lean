/- A part of the proof. No condition. -/
import Derived.Test.YtgeofabpinfcmaaGreatProg
import Derived.Test.YtgeofabpinfcmaaGreatEZ33
import Derived.Test.YtgeofabpinfcmaaGreatEZ31

set_option maxRecDepth 100000
set_option maxHeartbeats 8000000
set_option linter.unusedVariables false
set_option linter.unusedSimpArgs false
namespace Go.Proofs.YtgeofabpinfcmaaGreat
open Go.RowKit
def XH (L:Ja) (t:Nat) (cs m:List (List Nat)) (be:Nat):Bool:=decide (tE L.p cs m m.length=t)&&(List.range L.block).all fun k=>decide (Bc L.p (bh L.p L.a L.b (xq (fun i=>(m.getD i []).getD k 0) m.length) be L.b) 0=0)
theorem IU {n:Nat} {f g:Nat -> Bool} (h:∀ k,k<n -> f k=g k):(List.range n).all f=(List.range n).all g:=by
 rw [Bool.eq_iff_iff,List.all_eq_true,List.all_eq_true];exact ⟨fun h1 x hx=>by rw [<- h x (List.mem_range.1 hx)];exact h1 x hx,fun h1 x hx=>by rw [h x (List.mem_range.1 hx)];exact h1 x hx⟩
theorem QG {L:Ja} (hL:Db L) {m r:List (List Nat)} (h:Kg L m r) (hm:∀ x∈m,∀ y∈x,y<L.p) {i k:Nat} (hi:i<m.length) (hk:k<L.block):Cg L.p (Jb ((Cd L m r).getD i []) ((Vb L.p 1 L.block k:Nat):Int)) (((m.getD i []).getD k 0:Nat):Int):=by
 obtain ⟨hp,-⟩:=Va hL.p;rw [Xu hL h hi];have h2:(r.getD i []).length=L.queries:=Bm h.rr (by rw [h.rl];exact hi)
 have e:yl L m r i=Bi L (m.getD i []) (r.getD i []):=by unfold yl Bs Bi;rw [h2,<- hL.k]
 rw [e];refine (ik _).symm.trans (Cg.of_eq ?_);rw [W1 hL (fun j=>Wg (by omega) (Bm (P:=fun x=>∀ y∈x,y<L.p) hm hi) j) hk]
theorem wt_at {L:Ja} (hL:Db L) {cs:List (List Nat)} (qe:∀ x∈cs,x.length=L.block) {j k:Nat} (hj:j<cs.length) (hk:k<L.block):Cg L.p (Jb ((Ig L.p cs).getD j []) ((Vb L.p 1 L.block k:Nat):Int)) (((cs.getD j []).getD k 0:Nat):Int):=by
 obtain ⟨hlen,t,ht⟩:=Uk hL;have En:L.block=2^L.block.log2:=by rw [ht,Nat.log2_two_pow]
 rw [uU hL qe hj];unfold Jb Qb;rw [List.length_map,List.length_range,ID];exact (Dj (fun i=>Cg.rfl') QA _).trans (mL _ hL.p hlen En hk)
theorem bN {p:Nat} (a b:List (List Nat)):∀ n,Cg p (tE p a b n:Int) (Sa (fun i=>Sa (fun k=>(((a.getD i []).getD k 0:Nat):Int)*(((b.getD i []).getD k 0:Nat):Int)) (a.getD i []).length) n)
 | 0=>Cg.of_eq rfl
 | n+1=>(Cg.mod _).trans ((Cg.of_eq (Int.natCast_add _ _)).trans ((bN a b n).add (VO _ _ _)))
theorem oT {p:Nat} (hp:0<p) (a b:List (List Nat)):∀ n,tE p a b n<p
 | 0=>hp
 | _+1=>Nat.mod_lt _ hp
/-- The answers have the right sums exactly if the messages pass. -/
theorem BT {L:Ja} (hL:Db L) {cs m r:List (List Nat)} (h:Kg L m r) (hm:∀ x∈m,∀ y∈x,y<L.p) (qe:∀ x∈cs,x.length=L.block) (Vf:cs.length=m.length) {co li qu:List Nat} (hc:co.length=L.k /\ ∀ y∈co,y<L.p) (hl:li.length=L.k+L.block-2 /\ ∀ y∈li,y<L.p) (hq:qu.length=L.block+2*L.queries-1) (al be t:Nat) :
  uE L t (Pd L m r co al) (Nc L cs m r li) (pd L m r qu be)=XH L t cs m be:=by
 obtain ⟨hp,-⟩:=Va hL.p;have mc:0<L.p:=by omega
 have e1:∀ k,k<L.block -> Bc L.p (pd L m r qu be) (Vb L.p 1 L.block k)=Bc L.p (bh L.p L.a L.b (xq (fun i=>(m.getD i []).getD k 0) m.length) be L.b) 0:=fun k hk=>by
  refine Cg.eq (p:=L.p) ?_ (qn mc _ _) (qn mc _ _);refine (ik _).trans ?_;refine (oO (by omega) m r qu be _).trans ?_
  refine Cg.trans ?_ (rM (by omega) h.ml.symm _ be).symm
  have e0:Cg L.p (Jb (Gg L qu) ((Vb L.p 1 L.block k:Nat):Int)) 0:=by
   rw [Dx hL hq];refine (ik _).symm.trans (Cg.of_eq ?_);rw [PR hL];rfl
  have Ud:=h.ml;refine (e0.add (Ti _ fun j hj=>Cg.rfl'.mul (((QG hL h hm (i:=L.a+j) (by omega) hk).mul (QG hL h hm (i:=L.a+L.b+j) (by omega) hk)).less (QG hL h hm (i:=L.a+L.b+L.b+j) (by omega) hk)))).trans (Cg.of_eq ?_)
  rw [Int.zero_add]
 have e2:Nt L.p (fun k=>Bc L.p (Nc L cs m r li) (Vb L.p 1 L.block k)) L.block=tE L.p cs m m.length:=by
  refine Cg.eq (p:=L.p) ?_ (sT mc _ _) (oT mc _ _ _);refine (lG _ _).trans ?_;refine Cg.trans ?_ (bN _ _ _).symm;refine (Ti (g:=fun k=>(Bc L.p (Bd L li) (Vb L.p 1 L.block k):Int)+Sa (fun j=>(((cs.getD j []).getD k 0:Nat):Int)*(((m.getD j []).getD k 0:Nat):Int)) m.length) _ fun k hk=>?_).trans ?_
  ·refine (ik _).trans ((mO cs m r li _).trans ?_)
   exact (ik _).symm.add (Ti _ fun j hj=>(wt_at hL qe (by omega) hk).mul (QG hL h hm hj hk))
  ·rw [Kz]
   have e3:Cg L.p (Sa (fun k=>(Bc L.p (Bd L li) (Vb L.p 1 L.block k):Int)) L.block) 0:=by
    refine (lG _ _).symm.trans (Cg.of_eq ?_);rw [pQ hL];rfl
   refine (e3.add Cg.rfl').trans ?_;rw [Int.zero_add,Lz];refine Ti _ fun j hj=>Cg.of_eq ?_
   rw [Bm qe (show j<cs.length by omega)]
 unfold uE XH;rw [xD hL h qe Vf hc hl hq al be,e2,Bool.true_and,Bool.and_comm]
 congr 1
 exact IU fun k hk=>by rw [e1 k hk]
end Go.Proofs.YtgeofabpinfcmaaGreat
namespace Go.Proofs.YtgeofabpinfcmaaGreat
theorem SF {α:Type} {l:List α} {i:Nat} (d:α) (h:i<l.length):l.getD i d∈l:=by
 rw [List.getD_eq_getElem?_getD,List.getElem?_eq_getElem h];exact List.getElem_mem h
theorem LI (f:Nat -> Int) (m:Nat):∀ n,Sa f (m+n)=Sa f m+Sa (fun i=>f (m+i)) n
 | 0=>by rw [Sa,Nat.add_zero];omega
 | n+1=>by
  rw [<- Nat.add_assoc,Sa,LI f m n,Sa];omega
theorem Yl {f g:Nat -> Int}:∀ n,(∀ i,i<n -> f i=g i) -> Sa f n=Sa g n
 | 0,_=>rfl
 | n+1,h=>by rw [Sa,Sa,Yl n fun i hi=>h i (by omega),h n (by omega)]
theorem qT (f:Nat -> Int) (B:Nat):∀ n,Sa (fun r=>Sa (fun j=>f (r*B+j)) B) n=Sa f (n*B)
 | 0=>by rw [Sa,Nat.zero_mul,Sa]
 | n+1=>by rw [Sa,qT f B n,Nat.succ_mul,LI]
theorem rT {f:Nat -> Int} {n m:Nat} (h:n <= m) (h0:∀ q,n <= q -> f q=0):Sa f m=Sa f n:=by
 obtain ⟨d,rfl⟩:∃ d,m=n+d:=⟨m-n,by omega⟩
 rw [LI,Yl (g:=fun _=>0) d fun i _=>h0 _ (by omega),Mt]
 omega
def Wo (ps:Nat -> Nat):Nat -> Nat
 | 0=>0
 | i+1=>Wo ps i+ps i
theorem aE (B:Nat) (l:Nat -> List Nat) (ps:Nat -> Nat):∀ i,(Vh B l ps i).length=Wo ps i
 | 0=>rfl
 | i+1=>by rw [DD,List.length_append,aE B l ps i,Wo];simp [ak]
theorem aH {B:Nat} {l:Nat -> List Nat} {ps:Nat -> Nat} {i r:Nat} (h:r<Wo ps i):(Vh B l ps (i+1)).getD r []=(Vh B l ps i).getD r []:=by
 rw [DD,List.getD_eq_getElem?_getD,List.getElem?_append_left (by rw [aE];exact h),List.getD_eq_getElem?_getD]
theorem ZG {B:Nat} {l:Nat -> List Nat} {ps:Nat -> Nat} {i r:Nat} (h:r<ps i):(Vh B l ps (i+1)).getD (Wo ps i+r) []=Al B (l i) r:=by
 rw [DD,List.getD_eq_getElem?_getD,List.getElem?_append_right (by rw [aE];omega),aE,Nat.add_sub_cancel_left,ak,List.getElem?_map,List.getElem?_range h]
 rfl
theorem XE {B:Nat} {v:List Nat} {r j:Nat} (h:j<B):(Al B v r).getD j 0=v.getD (r*B+j) 0:=by
 unfold Al;rw [List.getD_eq_getElem?_getD,List.getElem?_map,List.getElem?_range h]
 rfl
theorem NO (B:Nat) (lu lv:Nat -> List Nat) (ps:Nat -> Nat):∀ i,Sa (fun r=>Sa (fun k=>((((Vh B lu ps i).getD r []).getD k 0:Nat):Int)*((((Vh B lv ps i).getD r []).getD k 0:Nat):Int)) ((Vh B lu ps i).getD r []).length) (Wo ps i) =
  Sa (fun i=>Sa (fun q=>(((lu i).getD q 0:Nat):Int)*(((lv i).getD q 0:Nat):Int)) (ps i*B)) i
 | 0=>rfl
 | i+1=>by
  rw [Wo,LI,Sa,<- NO B lu lv ps i]
  congr 1
  ·exact Yl _ fun r hr=>by simp only [aH hr]
  ·rw [<- qT]
   refine Yl _ fun r hr=>?_
   simp only [ZG hr];rw [show (Al B (lu i) r).length=B by simp [Al]]
   exact Yl _ fun j hj=>by rw [XE hj,XE hj]
def tvI (ws:List Nat) (t:Int × Nat):Int:=if 0 <= t.1 /\ t.1<(ws.length:Int) then (t.2:Int)*((ws.getD t.1.toNat 0:Nat):Int) else 0
theorem uL {p:Nat} (ts:List (Int × Nat)) (ws:List Nat):∀ j,j <= ts.length -> Cg p (Yc p (ts.take j) ws:Int) (Sa (fun i=>tvI ws (ts.getD i (0,0))) j)
 | 0,_=>Cg.rfl'
 | j+1,h=>by
  rw [Sa,yL p ts ws j (by omega)]
  unfold yr tvI;split
  ·exact aO (uL ts ws j (by omega)) _ _
  ·rw [Int.add_zero]
   exact uL ts ws j (by omega)
theorem oQ {p:Nat} (ts:List (Int × Nat)) (ws:List Nat):Cg p (Yc p ts ws:Int) (Sa (fun i=>tvI ws (ts.getD i (0,0))) ts.length):=by
 have:=uL (p:=p) ts ws ts.length zR
 rwa [List.take_length] at this
def Jx (pu:Nat) (ws:List Nat) (t:Int × Nat):Int:=if 0 <= t.1-1-(pu:Int) then (t.2:Int)*((ws.getD t.1.toNat 0:Nat):Int) else 0
theorem X5 {pu:Nat} {ws pub:List Nat} (mz:ws.take (1+pu)=1 :: pub) (hl:1+pu <= ws.length) {t:Int × Nat} (h0:0 <= t.1) (h1:t.1<(ws.length:Int)):tvI ws t=tvI (1 :: pub) t+Jx pu ws t:=by
 have Jh:(1 :: pub).length=1+pu:=by rw [<- mz,List.length_take,Nat.min_eq_left hl]
 unfold tvI Jx;rw [if_pos ⟨h0,h1⟩,Jh];by_cases h:0 <= t.1-1-(pu:Int)
 ·rw [if_neg (by omega),if_pos h,Int.zero_add]
 ·rw [if_pos (by omega),if_neg h,Int.add_zero,<- mz]
  congr 2
  rw [List.getD_eq_getElem?_getD,List.getD_eq_getElem?_getD,List.getElem?_take_of_lt (by omega)]
theorem R5 {p pu x S:Nat} {ws:List Nat} (hl:ws.length=1+pu+S) {t:Int × Nat} (h1:t.1<(ws.length:Int)):Cg p (Sa (fun s=>Ot s pu x t*((ws.getD (1+pu+s) 0:Nat):Int)) S) ((x:Int)*Jx pu ws t):=by
 unfold Jx;by_cases h:0 <= t.1-1-(pu:Int)
 ·rw [if_pos h]
  refine KI (q:=(t.1-1-(pu:Int)).toNat) (by omega) (fun s _ hs=>?_) ?_
  ·unfold Ot
   rw [if_neg (by omega),Int.zero_mul]
   exact Cg.rfl'
  ·unfold Ot
   rw [if_pos (by omega),show 1+pu+(t.1-1-(pu:Int)).toNat=t.1.toNat by omega]
   exact Cg.of_eq (Int.mul_assoc _ _ _)
 ·rw [if_neg h,Int.mul_zero]
  refine Cg.of_eq ?_;rw [Yl (g:=fun _=>0) S fun s _=>by unfold Ot;rw [if_neg (by omega),Int.zero_mul],Mt]
theorem QQ (f:Nat -> Int):∀ n,-(Sa f n)=Sa (fun i=>-(f i)) n
 | 0=>rfl
 | n+1=>by rw [Sa,Sa,<- QQ f n];omega
theorem fN (c:Int) (f:Nat -> Int) (n:Nat):Sa f n*c=Sa (fun i=>f i*c) n:=by
 rw [Int.mul_comm,jD];exact Yl _ fun i _=>Int.mul_comm _ _
section
variable {L:Ja} {pu rho:Nat} {vars:Int} {rows:List Cb} {ws pub:List Nat}
theorem p6 (hV:mn vars rows) (hw:(ws.length:Int)=vars) (mz:ws.take (1+pu)=1 :: pub) (hl:1+pu <= ws.length) {k i:Nat} (hk:k<3) (hi:i<rows.length) :
  Cg L.p (Yc L.p (Mc (rows.getD i ⟨[],[],[]⟩) k) ws:Int) ((Yc L.p (Mc (rows.getD i ⟨[],[],[]⟩) k) (1 :: pub):Int)+Sa (fun t=>Jx pu ws ((Mc (rows.getD i ⟨[],[],[]⟩) k).getD t (0,0))) (Mc (rows.getD i ⟨[],[],[]⟩) k).length):=by
 have hr:rows.getD i ⟨[],[],[]⟩∈rows:=SF _ hi;refine (oQ _ _).trans (Cg.trans (Cg.of_eq ?_) ((oQ _ _).symm.add Cg.rfl'));rw [<- Kz];refine Yl _ fun t ht=>?_
 obtain ⟨a,b⟩:=hV _ hr k hk _ (SF (0,0) ht);exact X5 mz hl a (by omega)
theorem R4 (hp:1<L.p) (hV:mn vars rows) (hw:(ws.length:Int)=vars) {S:Nat} (hl:ws.length=1+pu+S) :
  Cg L.p (Sa (fun s=>(Hs L.p pu rows.length rho rows 3 s:Int)*((ws.getD (1+pu+s) 0:Nat):Int)) S)
   (-(Sa (fun k=>Sa (fun i=>((rho^(k*rows.length+i)%L.p:Nat):Int)*Sa (fun t=>Jx pu ws ((Mc (rows.getD i ⟨[],[],[]⟩) k).getD t (0,0))) (Mc (rows.getD i ⟨[],[],[]⟩) k).length) rows.length) 3)):=by
 refine (Ti S fun s _=>(YJ hp pu rows.length rho rows s 3).mul Cg.rfl').trans ?_
 refine (Cg.of_eq (show _=-(Sa (fun k=>Sa (fun i=>Sa (fun s=>rv L.p pu rows.length rho rows s k i*((ws.getD (1+pu+s) 0:Nat):Int)) S) rows.length) 3) from ?_)).trans (Cg.neg (Ti 3 fun k hk=>Ti rows.length fun i hi=>?_))
 ·rw [Yl (g:=fun s=>-(Sa (fun k=>Sa (fun i=>rv L.p pu rows.length rho rows s k i*((ws.getD (1+pu+s) 0:Nat):Int)) rows.length) 3)) S fun s _=>by
   rw [Int.neg_mul,fN]
   congr 1
   exact Yl _ fun k _=>fN _ _ _]
  rw [<- QQ]
  congr 1
  rw [Lz (fun s k=>Sa (fun i=>rv L.p pu rows.length rho rows s k i*((ws.getD (1+pu+s) 0:Nat):Int)) rows.length) 3 S]
  exact Yl _ fun k _=>Lz (fun s i=>rv L.p pu rows.length rho rows s k i*((ws.getD (1+pu+s) 0:Nat):Int)) rows.length S
 ·have hr:rows.getD i ⟨[],[],[]⟩∈rows:=SF _ hi
  rw [jD];refine (Cg.of_eq (show _=Sa (fun t=>Sa (fun s=>Ot s pu (rho^(k*rows.length+i)%L.p) ((Mc (rows.getD i ⟨[],[],[]⟩) k).getD t (0,0))*((ws.getD (1+pu+s) 0:Nat):Int)) S) (Mc (rows.getD i ⟨[],[],[]⟩) k).length from ?_)).trans (Ti _ fun t ht=>R5 hl ?_)
  ·rw [Yl (g:=fun s=>Sa (fun t=>Ot s pu (rho^(k*rows.length+i)%L.p) ((Mc (rows.getD i ⟨[],[],[]⟩) k).getD t (0,0))*((ws.getD (1+pu+s) 0:Nat):Int)) (Mc (rows.getD i ⟨[],[],[]⟩) k).length) S fun s _=>by rw [rv,fN]]
   exact Lz (fun s t=>Ot s pu (rho^(k*rows.length+i)%L.p) ((Mc (rows.getD i ⟨[],[],[]⟩) k).getD t (0,0))*((ws.getD (1+pu+s) 0:Nat):Int)) _ S
  ·obtain ⟨-,b⟩:=hV _ hr k hk _ (SF (0,0) ht)
   omega
theorem pH {p k i:Nat} (hi:i<rows.length):(Xe p rows ws k).getD i 0=Yc p (Mc (rows.getD i ⟨[],[],[]⟩) k) ws:=by
 unfold Xe;rw [List.getD_eq_getElem?_getD,List.getElem?_map,List.getD_eq_getElem?_getD,List.getElem?_eq_getElem hi]
 rfl
theorem mF {l:List Nat} {i:Nat} (h:l.length <= i):l.getD i 0=0:=by
 rw [List.getD_eq_getElem?_getD,List.getElem?_eq_none h]
 rfl
theorem K4 (hL:Db L) (hF:xl L pu vars rows) (hV:mn vars rows) (hw:(ws.length:Int)=vars) (mz:ws.take (1+pu)=1 :: pub) :
  tE L.p (Tc L pu rho rows) (Ia L rows ws pu) (Ia L rows ws pu).length=tgK L.p rows.length rho (1 :: pub) rows 3:=by
 obtain ⟨hp,-⟩:=Va hL.p;have jc:1<L.p:=by omega
 have Ro:=hF.sec;have Ku:=hF.nr;have Ga:=hL.b1;have hae:=hL.ae;have dc:=hL.be;have hl:ws.length=1+pu+L.secret:=by omega
 have ha:L.secret <= L.a*L.block:=by
  rw [hae];have:=Nat.div_add_mod (L.secret+L.block-1) L.block;have:=Nat.mod_lt (L.secret+L.block-1) (show 0<L.block by omega)
  rw [Nat.mul_comm];omega
 have hb:rows.length <= L.b*L.block:=by
  rw [dc,Ku];have:=Nat.div_add_mod (rows.length+L.block-1) L.block;have:=Nat.mod_lt (rows.length+L.block-1) (show 0<L.block by omega)
  rw [Nat.mul_comm];omega
 refine Cg.eq (p:=L.p) ?_ (oT (by omega) _ _ _) (ET (by omega) _ _ _ _ _)
 refine (bN _ _ _).trans ?_;have Ud:(Ia L rows ws pu).length=Wo (Zc L.a L.b L.b L.b) 4:=by unfold Ia sj;exact aE _ _ _ 4
 rw [Ud];unfold Tc Ia sj;rw [NO];have h0:Sa (fun q=>((((List.range L.secret).map (Hs L.p pu rows.length rho rows 3)).getD q 0:Nat):Int)*(((ws.drop (1+pu)).getD q 0:Nat):Int)) (L.a*L.block)=Sa (fun s=>(Hs L.p pu rows.length rho rows 3 s:Int)*((ws.getD (1+pu+s) 0:Nat):Int)) L.secret:=by
  rw [rT ha fun q hq=>by rw [mF (by simp;exact hq)];exact Int.zero_mul _]
  refine Yl _ fun s hs=>?_
  congr 2
  ·rw [List.getD_eq_getElem?_getD,List.getElem?_map,List.getElem?_range hs];rfl
  ·rw [List.getD_eq_getElem?_getD,List.getElem?_drop,List.getD_eq_getElem?_getD]
 have hk:∀ k,k<3 -> Sa (fun q=>(((Cf L.p rows.length rho k).getD q 0:Nat):Int)*(((Xe L.p rows ws k).getD q 0:Nat):Int)) (L.b*L.block)=Sa (fun i=>((rho^(k*rows.length+i)%L.p:Nat):Int)*(Yc L.p (Mc (rows.getD i ⟨[],[],[]⟩) k) ws:Int)) rows.length:=fun k _=>by
  rw [rT hb fun q hq=>by rw [mF (l:=Cf L.p rows.length rho k) (by simp [Cf];exact hq)];exact Int.zero_mul _]
  refine Yl _ fun i hi=>?_
  rw [pH hi]
  congr 2
  unfold Cf;rw [List.getD_eq_getElem?_getD,List.getElem?_map,List.getElem?_range hi]
  rfl
 refine (Cg.of_eq (show _=Sa (fun s=>(Hs L.p pu rows.length rho rows 3 s:Int)*((ws.getD (1+pu+s) 0:Nat):Int)) L.secret+Sa (fun k=>Sa (fun i=>((rho^(k*rows.length+i)%L.p:Nat):Int)*(Yc L.p (Mc (rows.getD i ⟨[],[],[]⟩) k) ws:Int)) rows.length) 3 from ?_)).trans ?_
 ·have e4:∀ F:Nat -> Int,Sa F 4=F 0+(F 1+F 2+F 3):=fun F=>by simp only [Sa];omega
  have e3:∀ F:Nat -> Int,Sa F 3=F 0+F 1+F 2:=fun F=>by simp only [Sa];omega
  rw [e4,e3];have e:∀ {a b c d a' b' c' d':Int},a=a' -> b=b' -> c=c' -> d=d' -> a+(b+c+d)=a'+(b'+c'+d'):=fun h1 h2 h3 h4=>by rw [h1,h2,h3,h4]
  exact e h0 (hk 0 (by decide)) (hk 1 (by decide)) (hk 2 (by decide))
 ·refine ((R4 jc hV hw hl).add (Ti 3 fun k hk=>Ti rows.length fun i hi=>Cg.rfl'.mul (p6 hV hw mz (by omega) hk hi))).trans ((Cg.of_eq ?_).trans (DT rows.length rho (1 :: pub) rows 3).symm)
  have e:Sa (fun k=>Sa (fun i=>((rho^(k*rows.length+i)%L.p:Nat):Int)*((Yc L.p (Mc (rows.getD i ⟨[],[],[]⟩) k) (1 :: pub):Int)+Sa (fun t=>Jx pu ws ((Mc (rows.getD i ⟨[],[],[]⟩) k).getD t (0,0))) (Mc (rows.getD i ⟨[],[],[]⟩) k).length)) rows.length) 3 =
    Sa (fun k=>Sa (fun i=>tgT L.p rows.length rho (1 :: pub) rows k i) rows.length) 3+Sa (fun k=>Sa (fun i=>((rho^(k*rows.length+i)%L.p:Nat):Int)*Sa (fun t=>Jx pu ws ((Mc (rows.getD i ⟨[],[],[]⟩) k).getD t (0,0))) (Mc (rows.getD i ⟨[],[],[]⟩) k).length) rows.length) 3:=by
   rw [<- Kz];refine Yl _ fun k _=>?_
   rw [<- Kz];exact Yl _ fun i _=>Int.mul_add _ _ _
  rw [e];generalize Sa (fun k=>Sa (fun i=>tgT L.p rows.length rho (1 :: pub) rows k i) rows.length) 3=x
  generalize Sa (fun k=>Sa (fun i=>((rho^(k*rows.length+i)%L.p:Nat):Int)*Sa (fun t=>Jx pu ws ((Mc (rows.getD i ⟨[],[],[]⟩) k).getD t (0,0))) (Mc (rows.getD i ⟨[],[],[]⟩) k).length) rows.length) 3=y
  omega
theorem FL {k j:Nat} (hk:k<3) (hj:j<L.b):(Ia L rows ws pu).getD (L.a+k*L.b+j) []=Al L.block (Xe L.p rows ws k) j:=by
 have e1:Wo (Zc L.a L.b L.b L.b) 1=L.a:=Nat.zero_add _;have e2:Wo (Zc L.a L.b L.b L.b) 2=L.a+L.b:=by show 0+L.a+L.b=_;omega
 have e3:Wo (Zc L.a L.b L.b L.b) 3=L.a+L.b+L.b:=by show 0+L.a+L.b+L.b=_;omega
 unfold Ia sj;rcases (show k=0 \/ k=1 \/ k=2 by omega) with rfl | rfl | rfl
 ·rw [aH (by omega),aH (by omega),show L.a+0*L.b+j=Wo (Zc L.a L.b L.b L.b) 1+j by omega,ZG hj]
  rfl
 ·rw [aH (by omega),show L.a+1*L.b+j=Wo (Zc L.a L.b L.b L.b) 2+j by omega,ZG hj]
  rfl
 ·rw [show L.a+2*L.b+j=Wo (Zc L.a L.b L.b L.b) 3+j by omega,ZG hj]
  rfl
theorem L4 (hL:Db L) (hs:∀ r∈rows,Yc L.p r.a ws*Yc L.p r.b ws%L.p=Yc L.p r.c ws) (be:Nat) {k:Nat} (hk:k<L.block) :
  Bc L.p (bh L.p L.a L.b (xq (fun i=>((Ia L rows ws pu).getD i []).getD k 0) (Ia L rows ws pu).length) be L.b) 0=0:=by
 obtain ⟨hp,-⟩:=Va hL.p;have Ud:(Ia L rows ws pu).length=L.a+L.b+L.b+L.b:=by
  unfold Ia sj;rw [aE];show 0+L.a+L.b+L.b+L.b=_
  omega
 refine Cg.eq (p:=L.p) ?_ (qn (by omega) _ _) (by omega)
 refine (rM (by omega) Ud.symm _ be).trans ?_
 refine (Ti (g:=fun _=>0) L.b fun j hj=>?_).trans (Cg.of_eq (Mt _))
 have r0:=FL (L:=L) (rows:=rows) (ws:=ws) (pu:=pu) (k:=0) (by decide) hj
 have r1:=FL (L:=L) (rows:=rows) (ws:=ws) (pu:=pu) (k:=1) (by decide) hj
 have r2:=FL (L:=L) (rows:=rows) (ws:=ws) (pu:=pu) (k:=2) (by decide) hj
 rw [show L.a+0*L.b+j=L.a+j by omega] at r0
 rw [show L.a+1*L.b+j=L.a+L.b+j by omega] at r1
 rw [show L.a+2*L.b+j=L.a+L.b+L.b+j by omega] at r2
 simp only [r0,r1,r2];rw [XE hk,XE hk,XE hk];refine (Cg.rfl'.mul (show Cg L.p _ 0 from ?_)).trans (Cg.of_eq (Int.mul_zero _))
 by_cases hq:j*L.block+k<rows.length
 ·rw [pH hq,pH hq,pH hq]
  have h:=hs _ (SF (⟨[],[],[]⟩:Cb) hq);show Cg L.p ((Yc L.p (rows.getD (j*L.block+k) ⟨[],[],[]⟩).a ws:Int)*(Yc L.p (rows.getD (j*L.block+k) ⟨[],[],[]⟩).b ws:Int)-(Yc L.p (rows.getD (j*L.block+k) ⟨[],[],[]⟩).c ws:Int)) 0
  rw [<- h];exact (Cg.rfl'.less ((Cg.mod _).trans (Cg.of_eq (Int.natCast_mul _ _)))).trans (Cg.of_eq (Int.sub_self _))
 ·rw [mF (l:=Xe L.p rows ws 0) (by simp [Xe];omega),mF (l:=Xe L.p rows ws 1) (by simp [Xe];omega),mF (l:=Xe L.p rows ws 2) (by simp [Xe];omega)]
  exact Cg.rfl'
theorem ZS (hL:Db L) (hF:xl L pu vars rows) (hV:mn vars rows) (hw:(ws.length:Int)=vars) (mz:ws.take (1+pu)=1 :: pub)
  (hs:∀ r∈rows,Yc L.p r.a ws*Yc L.p r.b ws%L.p=Yc L.p r.c ws) (be:Nat) :
  XH L (tgK L.p rows.length rho (1 :: pub) rows 3) (Tc L pu rho rows) (Ia L rows ws pu) be=true:=by
 unfold XH;rw [Bool.and_eq_true];exact ⟨decide_eq_true (K4 hL hF hV hw mz),GU fun k hk=>decide_eq_true (L4 hL hs be hk)⟩
end
end Go.Proofs.YtgeofabpinfcmaaGreat
namespace Go.Proofs.YtgeofabpinfcmaaGreat
open Go.RowKit
theorem pD (n k:Nat):(Pc n).getD k 0=0:=by
 unfold Pc;rw [Qf];split <;> rfl
theorem QN {p:Nat} (hp:0<p) (n:Nat):(Pc n).length=n /\ ∀ y∈Pc n,y<p:=by
 refine ⟨by simp [Pc],fun y hy=>?_⟩
 obtain ⟨k,-,rfl⟩:=List.mem_map.1 hy;exact hp
theorem xV {p n k:Nat} (a b:List Nat) (h:k<n):(Wh p n a b).getD k 0=(a.getD k 0+oc p (b.getD k 0))%p:=by
 unfold Wh;rw [Qf,if_pos h]
 rfl
theorem OA {p n k:Nat} (hp:0<p) (a b:List Nat) (h:k<n):Cg p ((Wh p n a b).getD k 0:Int) ((a.getD k 0:Int)-(b.getD k 0:Int)):=by
 rw [xV a b h];exact nT hp _ _
theorem Gs (p n:Nat) (a b:List Nat):(Wh p n a b).length=n:=by simp [Wh]
theorem Dy {p n:Nat} (hp:0<p) (a b:List Nat):∀ x∈Wh p n a b,x<p:=fun x hx=>by
 obtain ⟨k,-,rfl⟩:=List.mem_map.1 hx;exact Nat.mod_lt _ hp
theorem PJ {p a n c d:Nat} (hp:0<p) (ha:a<p) {z:Int} (hd:Cg p (d:Int) ((a:Int)-(n:Int))) (hn:Cg p (n:Int) (z+(c:Int))) (hz:Cg p z 0):(d+c)%p=a:=by
 refine Cg.eq (p:=p) ?_ (Nat.mod_lt _ hp) ha;refine (Es _ _).trans ((hd.add Cg.rfl').trans ?_);refine ((Cg.rfl'.less (hn.trans (hz.add Cg.rfl'))).add Cg.rfl').trans (Cg.of_eq ?_);omega
section code
variable {L:Ja} {m r:List (List Nat)} {al:Nat}
theorem PE (co:List Nat) (k:Nat):(Pd L m r co al).getD k 0=(co.getD k 0+(Yi L.p (Cd L m r) al m.length).getD k 0)%L.p:=by
 unfold Pd;rw [Ir,Jk]
theorem LU (hL:Db L) (h:Kg L m r) {co:List Nat} (hc:co.length=L.k /\ ∀ y∈co,y<L.p):(Pd L m r co al).length=L.k:=by
 rw [<- SJ hL h hc.1 hc.2];simp
theorem kV (hL:Db L) (h:Kg L m r) {A:List Nat} (hA:A.length=L.k /\ ∀ y∈A,y<L.p):Pd L m r (Wh L.p L.k A (Pd L m r (Pc L.k) al)) al=A:=by
 have mc:0<L.p:=by have:=Va hL.p;omega
 have hl:=LU (al:=al) hL h ⟨Gs L.p L.k A (Pd L m r (Pc L.k) al),Dy mc _ _⟩;refine Om (by rw [hl,hA.1]) fun k hk=>?_
 rw [hl] at hk;rw [PE];refine PJ mc (Wg mc hA.2 k) (OA mc _ _ hk) (z:=0) ?_ Cg.rfl';rw [PE,pD];exact (Cg.mod _).trans (Cg.of_eq (by omega))
end code
section lin
variable {L:Ja} {cs m r:List (List Nat)}
theorem QE (li:List Nat) (k:Nat):(Nc L cs m r li).getD k 0=((Bd L li).getD k 0+(Oi L.p (Cd L m r) (Ig L.p cs) m.length).getD k 0)%L.p:=by
 unfold Nc;rw [Ir,Jk]
theorem nO (hL:Db L) (h:Kg L m r) (qe:∀ x∈cs,x.length=L.block) (Vf:cs.length=m.length) {li:List Nat} (hl:li.length=L.k+L.block-2 /\ ∀ y∈li,y<L.p):(Nc L cs m r li).length=L.k+L.block-1:=by
 rw [<- zL hL h qe Vf hl.1 hl.2];simp
theorem OH (li:List Nat) (k:Nat):(Bd L li).getD (k+1) 0=li.getD k 0:=by
 unfold Bd;simp
theorem WX (hp:0<L.p) (n:Nat):Cg L.p ((Bd L (Pc n)).getD 0 0:Int) 0:=by
 have:=rL (b:=L.block) hp (Pc n) ((Pc n).length / L.block);refine this.trans (Cg.of_eq ?_);rw [show (fun k=>(((Pc n).getD ((k+1)*L.block-1) 0:Nat):Int))=fun _=>0 from funext fun k=>by rw [pD];rfl,Mt]
 rfl
theorem YX (hp:0<L.p) (n k:Nat):Cg L.p ((Bd L (Pc n)).getD k 0:Int) 0:=by
 cases k with
 | zero=>exact WX hp n
 | succ k=>rw [OH,pD];exact Cg.of_eq rfl
theorem dP (a:Nat) (l:List Nat) (x:Int):Jb (a :: l) x=(a:Int)+x*Jb l x:=by
 unfold Jb;rw [List.length_cons,JD]
 rfl
theorem iN {p:Nat} (hp:0<p) (l:List Nat) (X:Nat -> Nat) (n:Nat):Cg p (Nt p (fun k=>Bc p l (X k)) n:Int) (Sa (fun k=>Jb l (X k:Int)) n) :=
 (lG _ _).trans (Ti _ fun k _=>ik _)
theorem IV {D:List Nat} (h:0<D.length):D=D.getD 0 0 :: D.drop 1:=by
 cases D with
 | nil=>simp at h
 | cons a l=>rfl
theorem iP {p n:Nat} (hp:0<p) {a b:List Nat} (ha:a.length=n) (hb:b.length=n) (x:Int):Cg p (Jb (Wh p n a b) x) (Jb a x-Jb b x):=by
 unfold Jb;rw [Gs,ha,hb];have h1:Cg p (Xa (Qb (Wh p n a b)) x n) (Xa (fun i=>Qb a i+(-1)*Qb b i) x n):=aF x n fun i hi=>(OA hp a b hi).trans (Cg.of_eq (by unfold Qb;omega))
 refine h1.trans (Cg.of_eq ?_);rw [WA,XA];omega
theorem pT (c:Int):∀ n,Sa (fun _=>c) n=(n:Int)*c
 | 0=>by simp [Sa]
 | n+1=>by
  rw [Sa,pT c n,Int.natCast_add,Int.add_mul];simp
theorem BX (hL:Db L) {D:List Nat} (hD:0<D.length) (hs:Cg L.p (Sa (fun k=>Jb D ((Vb L.p 1 L.block k:Nat):Int)) L.block) 0):Cg L.p ((Bd L (D.drop 1)).getD 0 0:Int) (D.getD 0 0:Int):=by
 have hp:=Va hL.p;obtain ⟨hlen,j,hj⟩:=Uk hL;have h1:Cg L.p (Sa (fun k=>Jb (Bd L (D.drop 1)) ((Vb L.p 1 L.block k:Nat):Int)) L.block) 0:=by
  refine (iN (by omega) _ _ _).symm.trans (Cg.of_eq ?_)
  rw [pQ hL]
  rfl
 obtain ⟨M,hM⟩:=zEX (Ol L.p L.block (D.drop 1) ((D.drop 1).length / L.block));have e0:Bd L (D.drop 1)=M :: D.drop 1:=by rw [hM];rfl
 have e1:Sa (fun k=>Jb (Bd L (D.drop 1)) ((Vb L.p 1 L.block k:Nat):Int)) L.block=Sa (fun k=>Jb D ((Vb L.p 1 L.block k:Nat):Int)) L.block+(L.block:Int)*((M:Int)-(D.getD 0 0:Int)):=by
  rw [<- pT,<- Kz];refine Yl _ fun k _=>?_
  rw [e0,dP]
  conv=>rhs;rw [IV hD]
  rw [dP];have:(D.getD 0 0 :: D.drop 1).getD 0 0=D.getD 0 0:=rfl;rw [this];omega
 rw [e1] at h1;have h2:Cg L.p ((L.block:Int)*((M:Int)-(D.getD 0 0:Int))) 0:=(Cg.of_eq (by omega)).trans ((h1.less hs).trans (Cg.of_eq (by omega)))
 have hinv:=dQ (p:=L.p) hL.p hj;rw [e0];show Cg L.p (M:Int) _
 have h3:Cg L.p ((M:Int)-(D.getD 0 0:Int)) 0:=by
  have h4:=h2.mul (Cg.rfl' (x:=((L.block^(L.p-2)%L.p:Nat):Int)));rw [Int.mul_right_comm,Int.zero_mul] at h4;exact (Cg.of_eq (Int.one_mul _).symm).trans ((hinv.symm.mul Cg.rfl').trans h4)
 refine (Cg.of_eq ?_).trans ((h3.add (Cg.rfl' (x:=(D.getD 0 0:Int)))).trans (Cg.of_eq ?_))
 ·omega
 ·omega
theorem AX (hL:Db L) (h:Kg L m r) (qe:∀ x∈cs,x.length=L.block) (Vf:cs.length=m.length) {B:List Nat} {t:Nat} (hB:B.length=L.k+L.block-1 /\ ∀ y∈B,y<L.p)
  (h1:Nt L.p (fun k=>Bc L.p B (Vb L.p 1 L.block k)) L.block=t)
  (h2:Nt L.p (fun k=>Bc L.p (Nc L cs m r (Pc (L.k+L.block-2))) (Vb L.p 1 L.block k)) L.block=t) :
  Nc L cs m r ((Wh L.p (L.k+L.block-1) B (Nc L cs m r (Pc (L.k+L.block-2)))).drop 1)=B:=by
 have mc:0<L.p:=by have:=Va hL.p;omega
 have Ga:=hL.b1;have uz:=nO hL h qe Vf (QN mc (L.k+L.block-2));have hl:=nO hL h qe Vf (li:=(Wh L.p (L.k+L.block-1) B (Nc L cs m r (Pc (L.k+L.block-2)))).drop 1) ⟨by rw [List.length_drop,Gs];omega,fun y hy=>Dy mc _ _ y (List.mem_of_mem_drop hy)⟩
 refine Om (by rw [hl,hB.1]) fun k hk=>?_
 rw [hl] at hk;rw [QE];have hN:∀ k,Cg L.p ((Nc L cs m r (Pc (L.k+L.block-2))).getD k 0:Int) (((Bd L (Pc (L.k+L.block-2))).getD k 0:Int)+((Oi L.p (Cd L m r) (Ig L.p cs) m.length).getD k 0:Int)):=fun k=>by
  rw [QE];exact Es _ _
 refine PJ mc (Wg mc hB.2 k) ?_ (hN k) (YX mc _ k);have hd:=OA (n:=L.k+L.block-1) mc B (Nc L cs m r (Pc (L.k+L.block-2))) hk;refine Cg.trans ?_ hd;cases k with
 | zero =>
  refine BX hL (by rw [Gs];omega) ?_
  refine (Ti _ fun k _=>iP mc hB.1 uz _).trans ?_
  have e:Sa (fun k=>Jb B ((Vb L.p 1 L.block k:Nat):Int)-Jb (Nc L cs m r (Pc (L.k+L.block-2))) ((Vb L.p 1 L.block k:Nat):Int)) L.block=Sa (fun k=>Jb B ((Vb L.p 1 L.block k:Nat):Int)) L.block-Sa (fun k=>Jb (Nc L cs m r (Pc (L.k+L.block-2))) ((Vb L.p 1 L.block k:Nat):Int)) L.block:=by
   have:=Kz (fun k=>Jb B ((Vb L.p 1 L.block k:Nat):Int)-Jb (Nc L cs m r (Pc (L.k+L.block-2))) ((Vb L.p 1 L.block k:Nat):Int)) (fun k=>Jb (Nc L cs m r (Pc (L.k+L.block-2))) ((Vb L.p 1 L.block k:Nat):Int)) L.block
   rw [show (fun i=>Jb B ((Vb L.p 1 L.block i:Nat):Int)-Jb (Nc L cs m r (Pc (L.k+L.block-2))) ((Vb L.p 1 L.block i:Nat):Int)+Jb (Nc L cs m r (Pc (L.k+L.block-2))) ((Vb L.p 1 L.block i:Nat):Int))=fun i=>Jb B ((Vb L.p 1 L.block i:Nat):Int) from funext fun i=>by omega] at this
   omega
  rw [e];refine ((iN mc _ _ _).symm.less (iN mc _ _ _).symm).trans (Cg.of_eq ?_);rw [h1,h2];omega
 | succ k =>
  rw [OH,List.getD_eq_getElem?_getD,List.getElem?_drop,List.getD_eq_getElem?_getD,Nat.add_comm 1 k];exact Cg.rfl'
end lin
section quo
variable {p b m:Nat} {F:Nat -> Nat}
theorem QR:∀ t i,t <= m -> i<m-t -> Si p b m F t i=F i
 | 0,_,_,_=>rfl
 | t+1,i,h,hi=>by
  rw [Si,ef,if_neg (by omega)]
  exact QR t i (by omega) (by omega)
theorem eI {t i:Nat} (h:m-t <= i):∀ s,t+s <= m -> Si p b m F (t+s) i=Si p b m F t i
 | 0,_=>rfl
 | s+1,hs=>by
  rw [<- Nat.add_assoc,Si,ef,if_neg (by omega)]
  exact eI h s (by omega)
theorem SR {i:Nat} (h:m <= i):Si p b m F m i=F i:=by
 have:=eI (p:=p) (b:=b) (m:=m) (F:=F) (t:=0) (i:=i) (by omega) m (by omega)
 rw [Nat.zero_add] at this;exact this
theorem RR (hb:0<b) {i:Nat} (h:i<m):Si p b m F m i=(F i+Si p b m F m (i+b))%p:=by
 obtain ⟨t,ht⟩:=zEX (m-1-i);have h1:=eI (p:=p) (b:=b) (m:=m) (F:=F) (t:=t+1) (i:=i) (by omega) (m-(t+1)) (by omega)
 have h2:=eI (p:=p) (b:=b) (m:=m) (F:=F) (t:=t) (i:=i+b) (by omega) (m-t) (by omega)
 rw [show t+1+(m-(t+1))=m by omega] at h1
 rw [show t+(m-t)=m by omega] at h2
 rw [h1,h2,Si,ef,show m-1-t=i by omega,if_pos rfl,QR t i (by omega) (by omega)]
end quo
section quad
variable {L:Ja} {m r:List (List Nat)} {be:Nat}
theorem RE (qu:List Nat) (k:Nat):(pd L m r qu be).getD k 0=((Gg L qu).getD k 0+(bh L.p L.a L.b (Cd L m r) be L.b).getD k 0)%L.p:=by
 unfold pd;rw [Ir,Jk]
theorem pO (hL:Db L) (h:Kg L m r) {qu:List Nat} (hq:qu.length=L.block+2*L.queries-1):(pd L m r qu be).length=2*L.k-1:=by
 rw [<- sM hL h hq];simp
theorem pM (hp:0<L.p) (hb:0<L.block) (q:List Nat) (k:Nat):Cg L.p ((Pg L q).getD k 0:Int) ((if L.block <= k then (q.getD (k-L.block) 0:Int) else 0)-(q.getD k 0:Int)):=by
 unfold Pg;rw [Qf];split
 ·refine (uN hp hb q q.length k).trans (Cg.of_eq ?_)
  have e1:(if L.block <= k /\ k<L.block+q.length then ((q.getD (k-L.block) 0:Nat):Int) else 0)=if L.block <= k then ((q.getD (k-L.block) 0:Nat):Int) else 0:=by
   by_cases h1:L.block <= k
   ·rw [if_pos h1,if_pos ⟨h1,by omega⟩]
   ·rw [if_neg h1,if_neg (fun h=>h1 h.1)]
  have e2:(if k<q.length then ((q.getD k 0:Nat):Int) else 0)=((q.getD k 0:Nat):Int):=by
   by_cases h1:k<q.length
   ·rw [if_pos h1]
   ·rw [if_neg h1,ym (by omega)];rfl
  rw [e1,e2]
 ·rw [ym (l:=q) (i:=k) (by omega)]
  by_cases h1:L.block <= k
  ·rw [if_pos h1,ym (l:=q) (by omega)]
   exact Cg.of_eq rfl
  ·rw [if_neg h1]
   exact Cg.of_eq rfl
theorem OR (hL:Db L) (n k:Nat) (hn:n=L.block+2*L.queries-1):Cg L.p ((Gg L (Pc n)).getD k 0:Int) 0:=by
 have hp:=Va hL.p;have Ga:=hL.b1;rw [Dx hL (by simp [Pc,hn])]
 refine (pM (by omega) (by omega) _ _).trans (Cg.of_eq ?_)
 rw [pD,pD];split <;> rfl
theorem tM (D:List Nat):(Hg L D).length=2*L.k-1-L.block:=by simp [Hg]
theorem uM (hp:0<L.p) (hb:0<L.block) {D:List Nat} (hD:∀ x∈D,x<L.p):∀ x∈Hg L D,x<L.p:=fun x hx=>by
 obtain ⟨i,-,rfl⟩:=List.mem_map.1 hx;by_cases h:i<2*L.queries-1
 ·rw [RR hb h]
  exact Nat.mod_lt _ hp
 ·rw [SR (by omega)]
  exact Wg hp (fun y hy=>hD y (List.mem_of_mem_drop hy)) i
theorem VR (hk:L.k=L.block+L.queries) (hb:0<L.block) (hq:1 <= L.queries) (D:List Nat) {i:Nat} (hi:i<2*L.k-1-L.block):Cg L.p ((Hg L D).getD i 0:Int) ((D.getD (L.block+i) 0:Int)+((Hg L D).getD (i+L.block) 0:Int)):=by
 have e:∀ j,(D.drop L.block).getD j 0=D.getD (L.block+j) 0:=fun j=>by
  rw [List.getD_eq_getElem?_getD,List.getElem?_drop,List.getD_eq_getElem?_getD]
 unfold Hg;rw [Qf,if_pos hi,Qf];by_cases h:i<2*L.queries-1
 ·rw [RR hb h,if_pos (by omega),e]
  exact Es _ _
 ·rw [SR (by omega),if_neg (by omega),e]
  exact Cg.of_eq (by omega)
theorem SU (hL:Db L):∀ i j,i<L.block -> j<L.block -> i≠j -> ¬Cg L.p ((Vb L.p 1 L.block i:Nat):Int) ((Vb L.p 1 L.block j:Nat):Int):=by
 obtain ⟨hlen,-⟩:=Uk hL;have key:∀ i j,i<j -> j<L.block -> ¬Cg L.p ((Vb L.p 1 L.block i:Nat):Int) ((Vb L.p 1 L.block j:Nat):Int):=fun i j hij hj hc=>by
  refine UO hL.p hlen hij hj ((FD i).trans (Cg.trans ?_ (FD j).symm));exact Cg.rfl'.mul (QA.symm.trans (hc.trans QA))
 intro i j hi hj Bb hc;rcases Nat.lt_or_gt_of_ne Bb with h | h
 ·exact key i j h hj hc
 ·exact key j i h hi hc.symm
theorem gZ (hL:Db L) (h:Kg L m r) {Q:List Nat} (hQ:Q.length=2*L.k-1 /\ ∀ y∈Q,y<L.p)
  (h1:∀ k,k<L.block -> Bc L.p Q (Vb L.p 1 L.block k)=0)
  (h2:∀ k,k<L.block -> Bc L.p (pd L m r (Pc (L.block+2*L.queries-1)) be) (Vb L.p 1 L.block k)=0) :
  pd L m r (Hg L (Wh L.p (2*L.k-1) Q (pd L m r (Pc (L.block+2*L.queries-1)) be))) be=Q:=by
 have mc:0<L.p:=by have:=Va hL.p;omega
 have Ga:=hL.b1;have tg:=hL.k;have Xf:=hL.q1;obtain ⟨D,hD⟩:=zEX (Wh L.p (2*L.k-1) Q (pd L m r (Pc (L.block+2*L.queries-1)) be));have uz:=pO (be:=be) hL h (qu:=Pc (L.block+2*L.queries-1)) (by simp [Pc])
 have hql:(Hg L D).length=L.block+2*L.queries-1:=by rw [tM];omega
 have hl:=pO (be:=be) hL h hql;have hD0:∀ k,k<L.block -> Cg L.p (Jb D ((Vb L.p 1 L.block k:Nat):Int)) 0:=fun k hk=>by
  rw [hD];refine (iP mc hQ.1 uz _).trans (((ik _).symm.less (ik _).symm).trans (Cg.of_eq ?_));rw [h1 k hk,h2 k hk]
  rfl
 have hDl:D.length=2*L.k-1:=by rw [hD,Gs]
 rw [<- hD];have hk:∀ k,k<2*L.k-1 -> Cg L.p ((Pg L (Hg L D)).getD k 0:Int) (D.getD k 0:Int):=by
  have QP:∀ k,L.block <= k -> k<2*L.k-1 -> Cg L.p ((Pg L (Hg L D)).getD k 0:Int) (D.getD k 0:Int):=fun k Ld Ih=>by
   refine (pM mc (by omega) _ _).trans ?_
   rw [if_pos Ld];have:=VR (L:=L) tg (by omega) Xf D (i:=k-L.block) (by omega)
   rw [show L.block+(k-L.block)=k by omega,show k-L.block+L.block=k by omega] at this
   exact (this.less Cg.rfl').trans (Cg.of_eq (by omega))
  intro k Ih;by_cases Ld:L.block <= k
  ·exact QP k Ld Ih
  ·have hz:=OG hL.p L.block (fun i=>(if i<L.block then Qb D i+(-1)*Qb (Pg L (Hg L D)) i else 0)) (fun i=>((Vb L.p 1 L.block i:Nat):Int)) (SU hL) (fun j hj=>by
    have hqe:Cg L.p (Jb (Pg L (Hg L D)) ((Vb L.p 1 L.block j:Nat):Int)) 0:=(ik _).symm.trans (Cg.of_eq (by rw [PR hL];rfl))
    have hqll:(Pg L (Hg L D)).length=2*L.k-1:=by unfold Pg;rw [List.length_map,List.length_range,hql];omega
    have e1:Xa (fun i=>(if i<L.block then Qb D i+(-1)*Qb (Pg L (Hg L D)) i else 0)) ((Vb L.p 1 L.block j:Nat):Int) L.block=Xa (fun i=>(if i<L.block then Qb D i+(-1)*Qb (Pg L (Hg L D)) i else 0)) ((Vb L.p 1 L.block j:Nat):Int) (2*L.k-1):=by
     rw [show 2*L.k-1=L.block+(2*L.k-1-L.block) by omega]
     exact (bK (fun i hi=>if_neg (by omega)) _).symm
    rw [e1];have e2:Cg L.p (Xa (fun i=>(if i<L.block then Qb D i+(-1)*Qb (Pg L (Hg L D)) i else 0)) ((Vb L.p 1 L.block j:Nat):Int) (2*L.k-1)) (Xa (fun i=>Qb D i+(-1)*Qb (Pg L (Hg L D)) i) ((Vb L.p 1 L.block j:Nat):Int) (2*L.k-1)):=aF _ _ fun i hi=>by
     show Cg L.p (if i<L.block then _ else _) _
     by_cases h3:i<L.block
     ·rw [if_pos h3]
      exact Cg.rfl'
     ·rw [if_neg h3]
      refine Cg.symm (Cg.trans (Cg.of_eq (show Qb D i+(-1)*Qb (Pg L (Hg L D)) i=((D.getD i 0:Nat):Int)-(((Pg L (Hg L D)).getD i 0:Nat):Int) by unfold Qb;omega)) ?_)
      exact (Cg.rfl'.less (QP i (by omega) hi)).trans (Cg.of_eq (Int.sub_self _))
    refine e2.trans ?_;rw [WA,XA];have e3:Xa (Qb D) ((Vb L.p 1 L.block j:Nat):Int) (2*L.k-1)=Jb D ((Vb L.p 1 L.block j:Nat):Int):=by unfold Jb;rw [hDl]
    have e4:Xa (Qb (Pg L (Hg L D))) ((Vb L.p 1 L.block j:Nat):Int) (2*L.k-1)=Jb (Pg L (Hg L D)) ((Vb L.p 1 L.block j:Nat):Int):=by unfold Jb;rw [hqll]
    rw [e3,e4];exact ((hD0 j hj).add (Cg.rfl'.mul hqe)).trans (Cg.of_eq (by omega))) k (by omega)
   have sh:Cg L.p (Qb D k+(-1)*Qb (Pg L (Hg L D)) k) 0:=by
    have:=hz;simp only [show k<L.block by omega,if_true] at this
    exact this
   unfold Qb at sh;refine (Cg.of_eq (show (((Pg L (Hg L D)).getD k 0:Nat):Int)=((D.getD k 0:Nat):Int)-(((D.getD k 0:Nat):Int)+(-1)*(((Pg L (Hg L D)).getD k 0:Nat):Int)) by omega)).trans ?_
   exact (Cg.rfl'.less sh).trans (Cg.of_eq (Int.sub_zero _))
 refine Om (by rw [hl,hQ.1]) fun k hkl=>?_
 rw [hl] at hkl;rw [RE,Dx hL hql];have hN:Cg L.p ((pd L m r (Pc (L.block+2*L.queries-1)) be).getD k 0:Int) (((Gg L (Pc (L.block+2*L.queries-1))).getD k 0:Int)+((bh L.p L.a L.b (Cd L m r) be L.b).getD k 0:Int)):=by
  rw [RE];exact Es _ _
 refine PJ mc (Wg mc hQ.2 k) ?_ hN (OR hL _ k rfl);refine (hk k hkl).trans ?_;rw [hD];exact OA mc _ _ hkl
end quad
def Hp (L:Ja) (m r:List (List Nat)) (co li qu:List Nat) (i:Int):List Nat:=(List.range (m.length+3)).map (Bg L (Ge L m r co li qu) i.toNat)
def Ie (L:Ja) (m r:List (List Nat)) (co li qu:List Nat) (pos:List Int):List (List Nat):=pos.map (Hp L m r co li qu)
theorem EO {L:Ja} {m r:List (List Nat)} {co li qu:List Nat} {i:Int} {j:Nat} (hj:j<m.length):(Hp L m r co li qu i).getD j 0=Bg L (Ge L m r co li qu) i.toNat j:=by
 unfold Hp;rw [Qf,if_pos (by omega)]
theorem FO {L:Ja} {m r:List (List Nat)} {co li qu:List Nat} {pos:List Int} {k:Nat} (hk:k<pos.length):(Ie L m r co li qu pos).getD k []=Hp L m r co li qu (pos.getD k 0):=by
 unfold Ie;rw [List.getD_eq_getElem?_getD,List.getElem?_map,List.getElem?_eq_getElem hk,List.getD_eq_getElem?_getD,List.getElem?_eq_getElem hk]
 rfl
theorem BI {L:Ja} (hL:Db L) {m r:List (List Nat)} (h:Kg L m r) (co li qu:List Nat) {j i:Nat} (hj:j<m.length) (hi:i<L.n) :
  Bg L (Ge L m r co li qu) i j=Bc L.p (Bi L (m.getD j []) (r.getD j [])) (Vb L.p (tb L.p).1 L.n i):=by
 obtain ⟨Md,re⟩:=nx hL;unfold Bg;rw [dF hL.p Md re _ hi,CR hL h co li qu hj,Xu hL h hj];have h2:(r.getD j []).length=L.queries:=Bm h.rr (by rw [h.rl];exact hj)
 have e:yl L m r j=Bi L (m.getD j []) (r.getD j []):=by unfold yl Bs Bi;rw [h2,<- hL.k]
 rw [e]
theorem cW {L:Ja} {m:List (List Nat)} {pos:List Int} {cols:List (List Nat)} {j:Nat} (hj:j<m.length):(Je L m pos cols).getD j []=Bl L m pos cols j:=by
 unfold Je;rw [List.getD_eq_getElem?_getD,List.getElem?_map,List.getElem?_range hj]
 rfl
theorem PD {L:Ja} {m:List (List Nat)} {pos:List Int} {cols:List (List Nat)} (hpos:se L.n L.queries pos=true) (hm:m.length=L.a+L.b+L.b+L.b) (hmr:∀ x∈m,x.length=L.block):Kg L m (Je L m pos cols) :=
 ⟨hm,by simp [Je],hmr,fun x hx=>by
  obtain ⟨r,-,rfl⟩:=List.mem_map.1 hx;exact iH (Jr hpos)⟩
theorem eW {cols:List (List Nat)} {n r k:Nat} (hk:k<n):(rn cols n r).getD k 0=(cols.getD k []).getD r 0:=by
 unfold rn;rw [Qf,if_pos hk]
theorem YH {L:Ja} {pos:List Int} (hpos:se L.n L.queries pos=true) {k:Nat} (hk:k<pos.length):(pos.getD k 0).toNat<L.n /\ ((pos.getD k 0).toNat:Int)=pos.getD k 0:=by
 obtain ⟨h1,h2,-⟩:=Fz hpos hk;omega
theorem VJ {L:Ja} (hL:Db L) {m r:List (List Nat)} {co li qu:List Nat} {pos:List Int} (hpos:se L.n L.queries pos=true):∀ x∈Ie L m r co li qu pos,x.length=m.length+3 /\ ∀ y∈x,y<L.p:=fun x hx=>by
 have mc:0<L.p:=by have:=Va hL.p;omega
 obtain ⟨i,-,rfl⟩:=List.mem_map.1 hx;refine ⟨by simp [Hp],fun y hy=>?_⟩
 obtain ⟨j,-,rfl⟩:=List.mem_map.1 hy;exact eF mc _ _ _ _ _
theorem NS {L:Ja} (hL:Db L) {m r m':List (List Nat)} {co li qu co' li' qu':List Nat} {pos:List Int} (hpos:se L.n L.queries pos=true) (hm:m.length=m'.length) (hm':m'.length=L.a+L.b+L.b+L.b) (hmr':∀ x∈m',x.length=L.block) {k j:Nat} (hk:k<pos.length) (hj:j<m'.length) :
  Bg L (Ge L m' (Je L m' pos (Ie L m r co li qu pos)) co' li' qu') (pos.getD k 0).toNat j=Bg L (Ge L m r co li qu) (pos.getD k 0).toNat j:=by
 obtain ⟨h1,h2⟩:=YH hpos hk;have mc:0<L.p:=by have:=Va hL.p;omega
 rw [BI hL (PD hpos hm' hmr') co' li' qu' hj h1,cW hj];have hv:=zQ hL (msg:=m'.getD j []) (vals:=rn (Ie L m r co li qu pos) pos.length j) (Bm hmr' hj) (iK mc hpos fun x hx=>(VJ hL hpos x hx).2) hk
 refine Eq.trans hv ?_;rw [eW hk,FO hk,EO (by omega)]
structure ExCase (L:Ja) (cs m r m':List (List Nat)) (co li qu sa:List Nat) (pos:List Int) (al be:Nat):Prop where
 hL:Db L
 hpos:se L.n L.queries pos=true
 csr:∀ x∈cs,x.length=L.block
 csl:cs.length=L.a+L.b+L.b+L.b
 ml:m.length=L.a+L.b+L.b+L.b
 mr:∀ x∈m,x.length=L.block
 ml':m'.length=L.a+L.b+L.b+L.b
 mr':∀ x∈m',x.length=L.block
 ok:Ze L r co li qu sa=true
section
variable {L:Ja} {cs m r m':List (List Nat)} {co li qu sa:List Nat} {pos:List Int} {al be:Nat}
theorem ExCase.msg (h:ExCase L cs m r m' co li qu sa pos al be):Kg L m r:=⟨h.ml,by have:=(Pq h.ok).1;rw [this,h.ml],h.mr,fun x hx=>((Pq h.ok).2.1 x hx).1⟩
def zd (L:Ja) (m r m':List (List Nat)) (co li qu:List Nat) (pos:List Int):List (List Nat):=Je L m' pos (Ie L m r co li qu pos)
def Zf (L:Ja) (m r m':List (List Nat)) (co li qu:List Nat) (pos:List Int) (al:Nat):List Nat:=OD L m' pos (Ie L m r co li qu pos) (Pd L m r co al) al
def Tf (L:Ja) (cs m r m':List (List Nat)) (co li qu:List Nat) (pos:List Int):List Nat:=ZA L cs m' pos (Ie L m r co li qu pos) (Nc L cs m r li)
def Uf (L:Ja) (m r m':List (List Nat)) (co li qu:List Nat) (pos:List Int) (be:Nat):List Nat:=aB L m' pos (Ie L m r co li qu pos) (pd L m r qu be) be
theorem ExCase.new (h:ExCase L cs m r m' co li qu sa pos al be):Ze L (zd L m r m' co li qu pos) (Zf L m r m' co li qu pos al) (Tf L cs m r m' co li qu pos) (Uf L m r m' co li qu pos be) sa=true:=by
 have mc:0<L.p:=by have:=Va h.hL.p;omega
 have Ga:=h.hL.b1;have tg:=h.hL.k;have Xf:=h.hL.q1;have h0:=oP (L:=L) (m:=m') (cols:=Ie L m r co li qu pos) (sa:=sa) mc h.hpos h.ml' (by
  have:=h.ok;unfold Ze at this;simp only [Bool.and_eq_true] at this;exact this.2.2.2.2.2)
 unfold Ze at h0 |-;simp only [Bool.and_eq_true] at h0 |-;have he:∀ {l:List Nat} {n:Nat},l.length=n -> (∀ x∈l,x<L.p) -> td l n L.p=true:=fun {l n} h1 h2=>by
  unfold td;rw [decide_eq_true h1,Bool.true_and,List.all_eq_true];exact fun x hx=>decide_eq_true (h2 x hx)
 refine ⟨h0.1,h0.2.1,he (Gs _ _ _ _) (Dy mc _ _),he ?_ ?_,he ?_ ?_,h0.2.2.2.2.2⟩
 ·unfold Tf ZA
  rw [List.length_drop,Gs];omega
 ·exact fun x hx=>Dy mc _ _ x (List.mem_of_mem_drop hx)
 ·unfold Uf aB
  rw [tM];omega
 ·exact uM mc (by omega) (Dy mc _ _)
theorem vT {t:Nat} {a b q:List Nat} (h:uE L t a b q=true):(a.length=L.k /\ ∀ y∈a,y<L.p) /\ (b.length=L.k+L.block-1 /\ ∀ y∈b,y<L.p) /\ (q.length=2*L.k-1 /\ ∀ y∈q,y<L.p) /\ (∀ k,k<L.block -> Bc L.p q (Vb L.p 1 L.block k)=0) /\ Nt L.p (fun k=>Bc L.p b (Vb L.p 1 L.block k)) L.block=t:=by
 unfold uE Rq at h;simp only [Bool.and_eq_true,List.all_eq_true,decide_eq_true_eq,List.mem_range] at h;exact ⟨⟨h.1.1.1.1.1.1.1,h.1.1.1.1.2⟩,⟨h.1.1.1.1.1.1.2,h.1.1.1.2⟩,⟨h.1.1.1.1.1.2,h.1.1.2⟩,h.1.2,h.2⟩
theorem ExCase.same (h:ExCase L cs m r m' co li qu sa pos al be) {t:Nat} (h1:uE L t (Pd L m r co al) (Nc L cs m r li) (pd L m r qu be)=true)
  (h2:uE L t (Pd L m' (zd L m r m' co li qu pos) (Pc L.k) al) (Nc L cs m' (zd L m r m' co li qu pos) (Pc (L.k+L.block-2))) (pd L m' (zd L m r m' co li qu pos) (Pc (L.block+2*L.queries-1)) be)=true) :
  Pd L m' (zd L m r m' co li qu pos) (Zf L m r m' co li qu pos al) al=Pd L m r co al /\ Nc L cs m' (zd L m r m' co li qu pos) (Tf L cs m r m' co li qu pos)=Nc L cs m r li /\ pd L m' (zd L m r m' co li qu pos) (Uf L m r m' co li qu pos be) be=pd L m r qu be:=by
 obtain ⟨a1,a2,a3,a4,a5⟩:=vT h1;obtain ⟨-,-,-,b4,b5⟩:=vT h2;have hM:Kg L m' (zd L m r m' co li qu pos):=PD h.hpos h.ml' h.mr';exact ⟨kV h.hL hM a1,AX h.hL hM h.csr (by rw [h.csl,h.ml']) a2 a5 b5,gZ h.hL hM a3 a4 b4⟩
theorem ExCase.cols (h:ExCase L cs m r m' co li qu sa pos al be) (hs:Pd L m' (zd L m r m' co li qu pos) (Zf L m r m' co li qu pos al) al=Pd L m r co al /\ Nc L cs m' (zd L m r m' co li qu pos) (Tf L cs m r m' co li qu pos)=Nc L cs m r li /\ pd L m' (zd L m r m' co li qu pos) (Uf L m r m' co li qu pos be) be=pd L m r qu be) :
  Ie L m' (zd L m r m' co li qu pos) (Zf L m r m' co li qu pos al) (Tf L cs m r m' co li qu pos) (Uf L m r m' co li qu pos be) pos=Ie L m r co li qu pos:=by
 have mc:0<L.p:=by have:=Va h.hL.p;omega
 obtain ⟨-,-,f3,f4,f5⟩:=Pq h.ok;obtain ⟨-,-,g3,g4,g5⟩:=Pq h.new;refine List.ext_getElem (by simp [Ie]) fun k Ld Ih=>?_
 have hk:k<pos.length:=by simpa [Ie] using Ld
 obtain ⟨hi,-⟩:=YH h.hpos hk;have hM:Kg L m' (zd L m r m' co li qu pos):=PD h.hpos h.ml' h.mr';have c1:=JO h.hL h.msg h.csr (by rw [h.csl,h.ml]) f3 f4 f5.1 al be hi
 have c2:=JO h.hL hM h.csr (by rw [h.csl,h.ml']) g3 g4 g5.1 al be hi
 rw [hs.1,hs.2.1,hs.2.2] at c2;have Pp:Rq L (Pd L m r co al) (Nc L cs m r li) (pd L m r qu be)=true:=xD h.hL h.msg h.csr (by rw [h.csl,h.ml]) f3 f4 f5.1 al be
 have YD:∀ (m r:List (List Nat)) (co li qu:List Nat) (i:Nat),(List.range (m.length+3)).map (Bg L (Ge L m r co li qu) i)=(List.range m.length).map (Bg L (Ge L m r co li qu) i)++[Bg L (Ge L m r co li qu) i m.length,Bg L (Ge L m r co li qu) i (m.length+1),Bg L (Ge L m r co li qu) i (m.length+2)]:=fun m r co li qu i=>by
  rw [show m.length+3=m.length+1+1+1 by omega,List.range_succ,List.range_succ,List.range_succ]
  simp
 have hlt3:∀ (m r:List (List Nat)) (co li qu:List Nat) (i:Nat),∀ x∈[Bg L (Ge L m r co li qu) i m.length,Bg L (Ge L m r co li qu) i (m.length+1),Bg L (Ge L m r co li qu) i (m.length+2)],x<L.p:=fun m r co li qu i x hx=>by
  simp only [List.mem_cons,List.not_mem_nil,or_false] at hx;rcases hx with rfl | rfl | rfl <;> exact eF mc _ _ _ _ _
 have hltm:∀ (m r:List (List Nat)) (co li qu:List Nat) (i:Nat),∀ x∈(List.range m.length).map (Bg L (Ge L m r co li qu) i),x<L.p:=fun m r co li qu i x hx=>by
  obtain ⟨j,-,rfl⟩:=List.mem_map.1 hx;exact eF mc _ _ _ _ _
 rw [YD,UJ Pp hi (by simp;exact h.ml) (hltm _ _ _ _ _ _) rfl (hlt3 _ _ _ _ _ _)] at c1
 rw [YD,UJ Pp hi (by simp;exact h.ml') (hltm _ _ _ _ _ _) rfl (hlt3 _ _ _ _ _ _)] at c2
 have hF:(List.range m'.length).map (Bg L (Ge L m' (zd L m r m' co li qu pos) (Zf L m r m' co li qu pos al) (Tf L cs m r m' co li qu pos) (Uf L m r m' co li qu pos be)) (pos.getD k 0).toNat)=(List.range m.length).map (Bg L (Ge L m r co li qu) (pos.getD k 0).toNat):=by
  rw [h.ml,<- h.ml'];refine List.map_congr_left fun j hj=>?_
  exact NS h.hL h.hpos (by rw [h.ml,h.ml']) h.ml' h.mr' hk (List.mem_range.1 hj)
 rw [hF] at c2;have e:=(of_decide_eq_true c1).symm.trans (of_decide_eq_true c2);have g1:(Ie L m' (zd L m r m' co li qu pos) (Zf L m r m' co li qu pos al) (Tf L cs m r m' co li qu pos) (Uf L m r m' co li qu pos be) pos)[k]=Hp L m' (zd L m r m' co li qu pos) (Zf L m r m' co li qu pos al) (Tf L cs m r m' co li qu pos) (Uf L m r m' co li qu pos be) (pos.getD k 0):=by
  simp [Ie,List.getD_eq_getElem?_getD,List.getElem?_eq_getElem hk]
 have g2:(Ie L m r co li qu pos)[k]=Hp L m r co li qu (pos.getD k 0):=by
  simp [Ie,List.getD_eq_getElem?_getD,List.getElem?_eq_getElem hk]
 rw [g1,g2];unfold Hp;rw [YD,YD m r,hF,e]
end
theorem Nq {p:Nat} {pu:Nat} {vars:Int} {ws:List Nat} (h:Dd p vars ws=true) (hv:(pu:Int)<vars):(ws.length:Int)=vars /\ (∀ x∈ws,x<p) /\ ∃ pub,ws.take (1+pu)=1 :: pub:=by
 simp only [Dd,Bool.and_eq_true,Bool.not_eq_true',bne_eq_false_iff_eq,List.all_eq_true,decide_eq_true_eq] at h;obtain ⟨⟨⟨h5,-⟩,h7⟩,h6⟩:=h;refine ⟨h5,h6,?_⟩;cases ws with
 | nil=>simp at h5;omega
 | cons a l =>
  have:a=1:=by simp at h7;omega
  subst this;exact ⟨l.take pu,by rw [Nat.add_comm,List.take_succ_cons]⟩
theorem aT {p:Nat} {rows:List Cb} {ws:List Nat} (h:Sj p rows ws=true):∀ r∈rows,Yc p r.a ws*Yc p r.b ws%p=Yc p r.c ws:=fun r hr=>of_decide_eq_true (List.all_eq_true.1 h r hr)
structure ExOk (L:Ja) (pu:Nat) (vars:Int) (rows:List Cb) (ws vs:List Nat) (pos:List Int):Prop where
 hL:Db L
 ht:dd L.p (pu:Int) vars rows=true
 tf:xl L pu vars rows
 aw:Dd L.p vars ws=true
 av:Dd L.p vars vs=true
 sw:Sj L.p rows ws=true
 sv:Sj L.p rows vs=true
 pub:ws.take (1+pu)=vs.take (1+pu)
 pos:se L.n L.queries pos=true
theorem ExOk.vars {L:Ja} {pu:Nat} {vars:Int} {rows:List Cb} {ws vs:List Nat} {pos:List Int} (h:ExOk L pu vars rows ws vs pos):(pu:Int)<vars:=by
 have ht:=h.ht;simp only [dd,Bool.and_eq_true,Bool.not_eq_true',decide_eq_false_iff_not] at ht;omega
theorem ExOk.swap {L:Ja} {pu:Nat} {vars:Int} {rows:List Cb} {ws vs:List Nat} {pos:List Int} (h:ExOk L pu vars rows ws vs pos):ExOk L pu vars rows vs ws pos:=⟨h.hL,h.ht,h.tf,h.av,h.aw,h.sv,h.sw,h.pub.symm,h.pos⟩
theorem ExOk.same {L:Ja} {pu:Nat} {vars:Int} {rows:List Cb} {ws vs:List Nat} {pos:List Int} (h:ExOk L pu vars rows ws vs pos):ExOk L pu vars rows ws ws pos:=⟨h.hL,h.ht,h.tf,h.aw,h.aw,h.sw,h.sw,rfl,h.pos⟩
section
variable {L:Ja} {pu rho al be:Nat} {vars:Int} {rows:List Cb} {ws vs:List Nat} {pos:List Int} {r:List (List Nat)} {co li qu sa:List Nat}
theorem ExOk.case (h:ExOk L pu vars rows ws vs pos) (rho al be:Nat) (Xb:Ze L r co li qu sa=true):ExCase L (Tc L pu rho rows) (Ia L rows ws pu) r (Ia L rows vs pu) co li qu sa pos al be :=
 ⟨h.hL,h.pos,fw,zy _ _ _ _,Vk _ _ _ _,fun _ hx=>qx hx,Vk _ _ _ _,fun _ hx=>qx hx,Xb⟩
theorem CQ (hp:0<L.p) (hw:∀ x∈ws,x<L.p):∀ x∈Ia L rows ws pu,∀ y∈x,y<L.p:=fun x hx y hy=>by
 obtain ⟨j,hj,rfl⟩:=List.getElem_of_mem hy;have:=ZX hp hw hx j
 rwa [List.getD_eq_getElem?_getD,List.getElem?_eq_getElem hj] at this
theorem ExOk.ans (h:ExOk L pu vars rows ws vs pos) (rho al be:Nat) (Xb:Ze L r co li qu sa=true) :
  Pd L (Ia L rows vs pu) (zd L (Ia L rows ws pu) r (Ia L rows vs pu) co li qu pos) (Zf L (Ia L rows ws pu) r (Ia L rows vs pu) co li qu pos al) al=Pd L (Ia L rows ws pu) r co al /\
   Nc L (Tc L pu rho rows) (Ia L rows vs pu) (zd L (Ia L rows ws pu) r (Ia L rows vs pu) co li qu pos) (Tf L (Tc L pu rho rows) (Ia L rows ws pu) r (Ia L rows vs pu) co li qu pos)=Nc L (Tc L pu rho rows) (Ia L rows ws pu) r li /\
   pd L (Ia L rows vs pu) (zd L (Ia L rows ws pu) r (Ia L rows vs pu) co li qu pos) (Uf L (Ia L rows ws pu) r (Ia L rows vs pu) co li qu pos be) be=pd L (Ia L rows ws pu) r qu be:=by
 have mc:0<L.p:=by have:=Va h.hL.p;omega
 have hc:=h.case rho al be Xb;obtain ⟨w1,w2,pub,w3⟩:=Nq h.aw h.vars;obtain ⟨v1,v2,pub',v3⟩:=Nq h.av h.vars;have Ed:1 :: pub=1 :: pub':=by rw [<- w3,<- v3,h.pub]
 have hV:=UI h.ht;have pw:=ZS (rho:=rho) h.hL h.tf hV w1 w3 (aT h.sw) be;have pv:=ZS (rho:=rho) h.hL h.tf hV v1 v3 (aT h.sv) be;rw [<- Ed] at pv;obtain ⟨f1,f2,f3,f4,f5⟩:=Pq Xb;have hMv:Kg L (Ia L rows vs pu) (zd L (Ia L rows ws pu) r (Ia L rows vs pu) co li qu pos):=PD h.pos hc.ml' hc.mr';refine hc.same (t:=tgK L.p rows.length rho (1 :: pub) rows 3) ?_ ?_
 ·rw [BT h.hL hc.msg (CQ mc w2) hc.csr (by rw [hc.csl,hc.ml]) f3 f4 f5.1 al be]
  exact pw
 ·rw [BT h.hL hMv (CQ mc v2) hc.csr (by rw [hc.csl,hc.ml']) (QN mc _) (QN mc _) (by simp [Pc]) al be]
  exact pv
end
theorem ZV {L:Ja} {cs m r m':List (List Nat)} {co li qu sa:List Nat} {pos:List Int} {al be:Nat} (h:ExCase L cs m r m' co li qu sa pos al be) {j k:Nat} (hj:j<m.length) (hk:k<pos.length)
  (hd:Bc L.p (Br L (m'.getD j [])) (sf L pos k)≠Bc L.p (Br L (m.getD j [])) (sf L pos k)):zd L m r m' co li qu pos≠r:=fun he=>hd (by
 have mc:0<L.p:=by have:=Va h.hL.p;omega
 have hj':j<m'.length:=by rw [h.ml',<- h.ml];exact hj
 obtain ⟨h1,h2⟩:=YH h.hpos hk;have hM:Kg L m' (zd L m r m' co li qu pos):=PD h.hpos h.ml' h.mr';have hs:=NS (co:=co) (li:=li) (qu:=qu) (r:=r) (co':=[]) (li':=[]) (qu':=[]) h.hL h.hpos (by rw [h.ml,h.ml']) h.ml' h.mr' hk hj'
 rw [BI h.hL h.msg co li qu hj h1] at hs;have xi:=BI h.hL hM [] [] [] hj' h1;have Lu:=xi.symm.trans hs;rw [he] at Lu;have e1:=dG h.hL (msg:=m'.getD j []) (masks:=r.getD j []) (Bm h.mr' hj') (sf L pos k);have e2:=dG h.hL (msg:=m.getD j []) (masks:=r.getD j []) (Bm h.mr hj) (sf L pos k);have e3:Cg L.p (Bc L.p (Bi L (m'.getD j []) (r.getD j [])) (sf L pos k):Int) (Bc L.p (Bi L (m.getD j []) (r.getD j [])) (sf L pos k):Int):=Cg.of_eq (congrArg (Nat.cast:Nat -> Int) Lu);refine Cg.eq (p:=L.p) ?_ (qn mc _ _) (qn mc _ _);have e4:=e1.symm.trans (e3.trans e2);refine (Cg.of_eq ?_).trans ((e4.less (Cg.rfl' (x:=((sf L pos k:Int)^L.block-1)*Jb (r.getD j []) (sf L pos k)))).trans (Cg.of_eq ?_))
 ·omega
 ·omega)
end Go.Proofs.YtgeofabpinfcmaaGreat
