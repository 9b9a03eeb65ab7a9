/- A part of the proof. No condition. -/
import Derived.Test.YtakjnmojigechaaGreatProg
import Derived.Test.YtakjnmojigechaaGreatJB23
import Derived.Test.YtakjnmojigechaaGreatJB14
import Derived.Test.YtakjnmojigechaaGreatJB35
import Derived.Test.YtakjnmojigechaaGreatJB36

namespace Go.Proofs.YtakjnmojigechaaGreat
theorem j9 {p b:Nat} (hp:0<p) (l:List Nat) (x:Int) (m:Nat):∀ i,i≤m→Cg p (evI (fun k=>(Vi p b l i k:Int)) x (b+m)) ((x^b-1)*evI (fun k=>((l.getD k 0:Nat):Int)) x i)
 | 0,_=>by
  refine Cg.of_eq ?_
  show evI (fun k=>((0:Nat):Int)) x (b+m)=(x^b-1)*0
  rw [VK,Int.mul_zero,←U0 (b+m)]
  congr 1
  funext k
  simp
 | i+1,hi=>by
  have ih:=j9 hp (b:=b) l x m i (by omega)
  rw [Vi]
  rw [yk _ _ _ _ _ (by omega),yk _ _ _ _ _ (by omega),evI]
  generalize VB (Vi p b l i) i ((Vi p b l i i+Y1 p (l.getD i 0))%p)=v
  have h1:Cg p (((Vi p b l i i+Y1 p (l.getD i 0))%p:Nat)-(Vi p b l i i:Int)) (-((l.getD i 0:Nat):Int)):=by
   have:=((Cg.mod (p:=p) (Vi p b l i i+Y1 p (l.getD i 0))).trans (Cg.trans (Cg.of_eq (Int.natCast_add _ _)) (Cg.rfl'.add (UV p (l.getD i 0) hp)))).add (Cg.rfl' (x:=-(Vi p b l i i:Int)))
   exact Cg.trans (Cg.of_eq (by omega)) (this.trans (Cg.of_eq (by omega)))
  have h2:Cg p (((v (b+i)+l.getD i 0)%p:Nat)-(v (b+i):Int)) ((l.getD i 0:Nat):Int):=by
   have:=((Cg.mod (p:=p) (v (b+i)+l.getD i 0)).trans (Cg.of_eq (Int.natCast_add _ _))).add (Cg.rfl' (x:=-(v (b+i):Int)))
   exact Cg.trans (Cg.of_eq (by omega)) (this.trans (Cg.of_eq (by omega)))
  refine ((ih.add (h1.mul Cg.rfl')).add (h2.mul Cg.rfl')).trans (Cg.of_eq ?_)
  rw [Int.pow_add]
  grind
end Go.Proofs.YtakjnmojigechaaGreat
namespace Go.Proofs.YtakjnmojigechaaGreat
theorem zA0 {p nb:Nat} (A B:Nat→Nat) (x:Int):∀ n,Cg p (evI (fun k=>(zM p nb A B k:Int)) x n) (evI (fun k=>(A k:Int)) x n+evI (fun k=>(B k:Int)) x (min n nb))
 | 0=>by rw [Nat.zero_min];exact Cg.rfl'
 | n+1=>by
  have ih:=zA0 A B x (p:=p) (nb:=nb) n
  rw [evI,evI]
  by_cases h:n<nb
  ·rw [show min (n+1) nb=n+1 by omega,evI,zM,if_pos h]
   rw [show min n nb=n by omega] at ih
   refine (ih.add (((Cg.mod (A n+B n)).trans (Cg.of_eq (Int.natCast_add _ _))).mul (Cg.rfl' (x:=x^n)))).trans (Cg.of_eq ?_)
   rw [Int.add_mul]
   omega
  ·rw [show min (n+1) nb=nb by omega,zM,if_neg h]
   rw [show min n nb=nb by omega] at ih
   exact (ih.add Cg.rfl').trans (Cg.of_eq (by omega))
theorem zG (f:Nat→Nat) (x:Int) (n:Nat):evI (fun i=>((((List.range n).map f).getD i 0:Nat):Int)) x n=evI (fun i=>(f i:Int)) x n :=
 yH x n fun i hi=>by rw [Yp,if_pos hi]
theorem zCk {p:Nat} {x:Int} (h:Cg p x 1):Cg p (x-1) 0:=by
 obtain ⟨c,hc⟩:=h
 exact ⟨c,by rw [←hc];omega⟩
theorem zKk {L:ZO} (hL:ZU L) {msg masks:List Nat} (hm:∀ i,msg.getD i 0<L.p) {k:Nat} (hk:k<L.block):ZT L.p (Gk L msg masks) (Xv L.p 1 L.block k)=msg.getD k 0:=by
 have hp:=Zr hL.p
 obtain ⟨hlen,j,hj⟩:=Ub hL
 have hlog:L.block.log2=j:=by rw [hj];exact Nat.log2_two_pow
 refine Cg.eq (p:=L.p) ?_ (XP (by omega) _ _) (hm k)
 refine (JH _).trans ?_
 have hl:(Gk L msg masks).length=L.block+masks.length:=by rw [Gk,List.length_map,List.length_range]
 rw [hl,Gk,zG]
 refine (Vv (fun _=>Cg.rfl') KE _).trans ?_
 refine (zA0 _ _ _ _).trans ?_
 rw [show min (L.block+masks.length) L.block=L.block by omega]
 have hv:=j9 (p:=L.p) (b:=L.block) (by omega) masks ((Yz L.p L.block:Int)^k) masks.length masks.length (Nat.le_refl _)
 have h0:Cg L.p (((Yz L.p L.block:Int)^k)^L.block-1) 0:=zCk (xC hL.p hlen k)
 have hi:=xo (q:=k) msg hL.p hlen hj hk
 rw [hlog]
 refine ((hv.trans (h0.mul Cg.rfl')).add hi).trans (Cg.of_eq ?_)
 rw [Int.zero_mul,Int.zero_add]
theorem zI1 {L:ZO} (hL:ZU L) (q:List Nat) (k:Nat):ZT L.p (Gf L q) (Xv L.p 1 L.block k)=0:=by
 have hp:=Zr hL.p
 obtain ⟨hlen,j,hj⟩:=Ub hL
 refine Cg.eq (p:=L.p) ?_ (XP (by omega) _ _) (by omega)
 refine (JH _).trans ?_
 have hl:(Gf L q).length=L.block+q.length:=by rw [Gf,List.length_map,List.length_range]
 rw [hl,Gf,zG]
 refine (Vv (fun _=>Cg.rfl') KE _).trans ?_
 have hv:=j9 (p:=L.p) (b:=L.block) (by omega) q ((Yz L.p L.block:Int)^k) q.length q.length (Nat.le_refl _)
 have h0:Cg L.p (((Yz L.p L.block:Int)^k)^L.block-1) 0:=zCk (xC hL.p hlen k)
 refine (hv.trans (h0.mul Cg.rfl')).trans (Cg.of_eq ?_)
 rw [Int.zero_mul]
 rfl
theorem yo {p:Nat} (f:Nat→Nat):∀ k,Cg p (kR p f k:Int) (ZY (fun i=>(f i:Int)) k)
 | 0=>Cg.rfl'
 | k+1=>by
  rw [kR,ZY]
  exact (Cg.mod _).trans (Cg.trans (Cg.of_eq (Int.natCast_add _ _)) ((yo f k).add Cg.rfl'))
theorem zEn {p:Nat} (hp:0<p) (f:Nat→Nat):∀ k,kR p f k<p
 | 0=>hp
 | _+1=>Nat.mod_lt _ hp
theorem zJ5 {p n:Nat} (h:okP p=true) (hn:XS p n) (i:Nat):Cg p (evI (fun _=>1) ((Yz p n:Int)^i) n) (if i%n=0 then (n:Int) else 0):=by
 obtain ⟨j,hj⟩:=hn.two
 have h1:=zb (G0 h hn) i
 refine (Vv (fun _=>Cg.rfl') h1 n).trans ?_
 split
 ·rename_i h0
  rw [h0,Int.pow_zero]
  exact Cg.of_eq (xY n)
 ·rename_i h0
  have hlt:i%n<n:=Nat.mod_lt _ hn.pos
  rcases K9 h hn hj with h2 | h2
  ·subst h2
   rw [hj] at h0 hlt
   omega
  ·have:=xu (p:=p) (j:=j) (d:=i%n) h2 (by omega) (by rw [←hj];exact hlt)
   rw [←hj] at this
   exact this
theorem zD0 {p n m:Nat} (h:okP p=true) (hn:XS p n) (a:Nat→Int):Cg p (ZY (fun k=>evI a ((Yz p n:Int)^k) m) n) ((n:Int)*ZY (fun i=>if i%n=0 then a i else 0) m):=by
 have e1:ZY (fun k=>evI a ((Yz p n:Int)^k) m) n=ZY (fun i=>a i*evI (fun _=>1) ((Yz p n:Int)^i) n) m:=by
  have e2:(fun k=>evI a ((Yz p n:Int)^k) m)=fun k=>ZY (fun i=>a i*((Yz p n:Int)^k)^i) m:=by funext k;rw [VK]
  rw [e2,Uo]
  congr 1
  funext i
  rw [VK,Ue]
  congr 1
  funext k
  rw [Int.one_mul,←Int.pow_mul,←Int.pow_mul,Nat.mul_comm]
 rw [e1,Ue]
 refine Y8 m fun i _=>?_
 refine (Cg.rfl'.mul (zJ5 h hn i)).trans (Cg.of_eq ?_)
 split
 ·rw [Int.mul_comm]
 ·rw [Int.mul_zero,Int.mul_zero]
theorem zq {g:Nat→Int} {s:Nat}:∀ t,(∀ i,i<t→g (s+i)=0)→ZY g (s+t)=ZY g s
 | 0,_=>rfl
 | t+1,h=>by
  rw [←Nat.add_assoc,ZY,zq t fun i hi=>h i (by omega),h t (by omega)]
  omega
theorem jx {n:Nat} (hn:0<n) (a:Nat→Int):∀ q,ZY (fun i=>if i%n=0 then a i else 0) (q*n+1)=a 0+ZY (fun k=>a ((k+1)*n)) q
 | 0=>by
  rw [Nat.zero_mul]
  simp [ZY]
 | q+1=>by
  have h1:=jx hn a q
  have h2:=zq (g:=fun i=>if i%n=0 then a i else 0) (s:=q*n+1) (n-1) fun i hi=>by
   rw [if_neg]
   rw [show q*n+1+i=(1+i)+n*q by rw [Nat.mul_comm];omega,Nat.add_mul_mod_self_left,Nat.mod_eq_of_lt (by omega)]
   omega
  rw [Nat.succ_mul,show q*n+n+1=(q*n+1+(n-1))+1 by omega,ZY,h2,h1,show q*n+1+(n-1)=(q+1)*n by rw [Nat.succ_mul];omega,ZY]
  rw [if_pos (Nat.mul_mod_left _ _)]
  omega
theorem zFb {p b:Nat} (hp:0<p) (l:List Nat):∀ q,Cg p (Gc p b l q:Int) (-(ZY (fun k=>((l.getD ((k+1)*b-1) 0:Nat):Int)) q))
 | 0=>Cg.rfl'
 | q+1=>by
  rw [Gc,ZY]
  refine (Cg.mod _).trans (Cg.trans (Cg.of_eq (Int.natCast_add _ _)) ?_)
  exact ((zFb hp l q).add (UV p _ hp)).trans (Cg.of_eq (by omega))
theorem zJ8 {L:ZO} (hL:ZU L) (l:List Nat):kR L.p (fun k=>ZT L.p (YL L l) (Xv L.p 1 L.block k)) L.block=0:=by
 have hp:=Zr hL.p
 have hb:=hL.b1
 obtain ⟨hlen,j,hj⟩:=Ub hL
 refine Cg.eq (p:=L.p) ?_ (zEn (by omega) _ _) (by omega)
 refine (yo _ _).trans ?_
 refine (Y8 (g:=fun k=>evI (fun i=>(((YL L l).getD i 0:Nat):Int)) ((Yz L.p L.block:Int)^k) (YL L l).length) L.block fun k _=>(JH _).trans (Vv (fun _=>Cg.rfl') KE _)).trans ?_
 refine (zD0 hL.p hlen _).trans ?_
 have hl:(YL L l).length=l.length / L.block*L.block+1+l.length%L.block:=by
  have:=Nat.div_add_mod l.length L.block
  rw [YL,List.length_cons,Nat.mul_comm]
  omega
 have hf:=zq (g:=fun i=>if i%L.block=0 then (((YL L l).getD i 0:Nat):Int) else 0) (s:=l.length / L.block*L.block+1) (l.length%L.block) fun i hi=>by
  have hm:l.length%L.block<L.block:=Nat.mod_lt _ (by omega)
  rw [if_neg]
  rw [show l.length / L.block*L.block+1+i=(1+i)+L.block*(l.length / L.block) by rw [Nat.mul_comm];omega,Nat.add_mul_mod_self_left,Nat.mod_eq_of_lt (by omega)]
  omega
 rw [hl,hf,jx (by omega)]
 have e0:((((YL L l).getD 0 0:Nat):Int))=(Gc L.p L.block l (l.length / L.block):Int):=rfl
 have e1:(fun k=>(((YL L l).getD ((k+1)*L.block) 0:Nat):Int))=fun k=>((l.getD ((k+1)*L.block-1) 0:Nat):Int):=by
  funext k
  have:0<(k+1)*L.block:=Nat.mul_pos (by omega) (by omega)
  obtain ⟨c,hc⟩:∃ c,(k+1)*L.block=c+1:=⟨(k+1)*L.block-1,by omega⟩
  rw [hc,YL,Nat.add_sub_cancel]
  rfl
 rw [e0,e1]
 refine (Cg.rfl'.mul (((zFb (by omega) l _).add Cg.rfl').trans (Cg.of_eq (Int.add_left_neg _)))).trans (Cg.of_eq ?_)
 rw [Int.mul_zero]
 rfl
end Go.Proofs.YtakjnmojigechaaGreat
namespace Go.Proofs.YtakjnmojigechaaGreat
open Go.RowKit
def zE (L:ZO) (t:Nat) (cs m:List (List Nat)) (be:Nat):Bool:=decide (zBb L.p cs m m.length=t)&&(List.range L.block).all fun k=>decide (ZT L.p (XX L.p L.a L.b (Ys (fun i=>(m.getD i []).getD k 0) m.length) be L.b) 0=0)
theorem zG8 {n:Nat} {f g:Nat→Bool} (h:∀ k,k<n→f k=g k):(List.range n).all f=(List.range n).all g:=by
 rw [Bool.eq_iff_iff,List.all_eq_true,List.all_eq_true]
 exact ⟨fun h1 x hx=>by rw [←h x (List.mem_range.1 hx)];exact h1 x hx,fun h1 x hx=>by rw [h x (List.mem_range.1 hx)];exact h1 x hx⟩
theorem kY {L:ZO} (hL:ZU L) {m r:List (List Nat)} (h:VG L m r) (hm:∀ x∈m,∀ y∈x,y<L.p) {i k:Nat} (hi:i<m.length) (hk:k<L.block):Cg L.p (evL ((YY L m r).getD i []) ((Xv L.p 1 L.block k:Nat):Int)) (((m.getD i []).getD k 0:Nat):Int):=by
 obtain ⟨hp,-⟩:=Zr hL.p
 rw [Vz hL h hi]
 have h2:(r.getD i []).length=L.queries:=XM h.rr (by rw [h.rl];exact hi)
 have e:VS L m r i=Gk L (m.getD i []) (r.getD i []):=by unfold VS UO Gk;rw [h2,←hL.k]
 rw [e]
 refine (Xr _).symm.trans (Cg.of_eq ?_)
 rw [zKk hL (fun j=>Uz (by omega) (XM (P:=fun x=>∀ y∈x,y<L.p) hm hi) j) hk]
theorem wt_at {L:ZO} (hL:ZU L) {cs:List (List Nat)} (hcs:∀ x∈cs,x.length=L.block) {j k:Nat} (hj:j<cs.length) (hk:k<L.block):Cg L.p (evL ((wtD L.p cs).getD j []) ((Xv L.p 1 L.block k:Nat):Int)) (((cs.getD j []).getD k 0:Nat):Int):=by
 obtain ⟨hlen,t,ht⟩:=Ub hL
 have hlog:L.block=2^L.block.log2:=by rw [ht,Nat.log2_two_pow]
 rw [zD8 hL hcs hj]
 unfold evL cfI
 rw [List.length_map,List.length_range,zG]
 exact (Vv (fun i=>Cg.rfl') KE _).trans (xo _ hL.p hlen hlog hk)
theorem zEw {p:Nat} (a b:List (List Nat)):∀ n,Cg p (zBb p a b n:Int) (ZY (fun i=>ZY (fun k=>(((a.getD i []).getD k 0:Nat):Int)*(((b.getD i []).getD k 0:Nat):Int)) (a.getD i []).length) n)
 | 0=>Cg.of_eq rfl
 | n+1=>(Cg.mod _).trans ((Cg.of_eq (Int.natCast_add _ _)).trans ((zEw a b n).add (zAc _ _ _)))
theorem zJz {p:Nat} (hp:0<p) (a b:List (List Nat)):∀ n,zBb p a b n<p
 | 0=>hp
 | _+1=>Nat.mod_lt _ hp
set_option maxHeartbeats 1000000 in
/-- The answers have the right sums exactly if the messages pass. -/
theorem xk {L:ZO} (hL:ZU L) {cs m r:List (List Nat)} (h:VG L m r) (hm:∀ x∈m,∀ y∈x,y<L.p) (hcs:∀ x∈cs,x.length=L.block) (hcl:cs.length=m.length) {co li qu:List Nat} (hc:co.length=L.k∧∀ y∈co,y<L.p) (hl:li.length=L.k+L.block-2∧∀ y∈li,y<L.p) (hq:qu.length=L.block+2*L.queries-1) (al be t:Nat) :
  JE L t (XW L m r co al) (XV L cs m r li) (XN L m r qu be)=zE L t cs m be:=by
 obtain ⟨hp,-⟩:=Zr hL.p
 have hp0:0<L.p:=by omega
 have e1:∀ k,k<L.block→ZT L.p (XN L m r qu be) (Xv L.p 1 L.block k)=ZT L.p (XX L.p L.a L.b (Ys (fun i=>(m.getD i []).getD k 0) m.length) be L.b) 0:=fun k hk=>by
  refine Cg.eq (p:=L.p) ?_ (XP hp0 _ _) (XP hp0 _ _)
  refine (Xr _).trans ?_
  refine (zAx (by omega) m r qu be _).trans ?_
  refine Cg.trans ?_ (xV (by omega) h.ml.symm _ be).symm
  have e0:Cg L.p (evL (Ui L qu) ((Xv L.p 1 L.block k:Nat):Int)) 0:=by
   rw [KC hL hq]
   refine (Xr _).symm.trans (Cg.of_eq ?_)
   rw [zI1 hL];rfl
  have hml:=h.ml
  refine (e0.add (Y8 _ fun j hj=>Cg.rfl'.mul (((kY hL h hm (i:=L.a+j) (by omega) hk).mul (kY hL h hm (i:=L.a+L.b+j) (by omega) hk)).less (kY hL h hm (i:=L.a+L.b+L.b+j) (by omega) hk)))).trans (Cg.of_eq ?_)
  rw [Int.zero_add]
 have e2:kR L.p (fun k=>ZT L.p (XV L cs m r li) (Xv L.p 1 L.block k)) L.block=zBb L.p cs m m.length:=by
  refine Cg.eq (p:=L.p) ?_ (zEn hp0 _ _) (zJz hp0 _ _ _)
  refine (yo _ _).trans ?_
  refine Cg.trans ?_ (zEw _ _ _).symm
  refine (Y8 (g:=fun k=>(ZT L.p (YL L li) (Xv L.p 1 L.block k):Int)+ZY (fun j=>(((cs.getD j []).getD k 0:Nat):Int)*(((m.getD j []).getD k 0:Nat):Int)) m.length) _ fun k hk=>?_).trans ?_
  ·refine (Xr _).trans ((zCa cs m r li _).trans ?_)
   exact (Xr _).symm.add (Y8 _ fun j hj=>(wt_at hL hcs (by omega) hk).mul (kY hL h hm hj hk))
  ·rw [yz]
   have e3:Cg L.p (ZY (fun k=>(ZT L.p (YL L li) (Xv L.p 1 L.block k):Int)) L.block) 0:=by
    refine (yo _ _).symm.trans (Cg.of_eq ?_)
    rw [zJ8 hL];rfl
   refine (e3.add Cg.rfl').trans ?_
   rw [Int.zero_add,Uo]
   refine Y8 _ fun j hj=>Cg.of_eq ?_
   rw [XM hcs (show j<cs.length by omega)]
 unfold JE zE
 rw [UU hL h hcs hcl hc hl hq al be,e2,Bool.true_and,Bool.and_comm]
 congr 1
 exact zG8 fun k hk=>by rw [e1 k hk]
end Go.Proofs.YtakjnmojigechaaGreat
