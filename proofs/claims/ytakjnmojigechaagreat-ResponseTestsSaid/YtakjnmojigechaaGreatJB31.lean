/- A part of the proof. No condition. -/
import Derived.Test.YtakjnmojigechaaGreatProg
import Derived.Test.YtakjnmojigechaaGreatJB27
import Derived.Test.YtakjnmojigechaaGreatJB23

namespace Go.Proofs.YtakjnmojigechaaGreat
def Ys (f:Nat→Nat) (n:Nat):List (List Nat):=(List.range n).map fun k=>[f k]
def jg (p a b:Nat):Nat:=(a+Y1 p b)%p
def UN (L:ZO) (cs:List (List Nat)) (al be:Nat) (a b c:List Nat) (x:Nat) (v:List Nat):List Nat :=
 [jg L.p (ZT L.p a x) (ZT L.p (VZ L.p (Ys (fun k=>v.getD k 0) v.length) al v.length) 0),
  jg L.p (ZT L.p b x) (ZT L.p (JD L.p (Ys (fun k=>v.getD k 0) v.length) (Ys (fun k=>ZT L.p ((wtD L.p cs).getD k []) x) v.length) v.length) 0),
  jg L.p (ZT L.p c x) (ZT L.p (XX L.p L.a L.b (Ys (fun k=>v.getD k 0) v.length) be L.b) 0)]
theorem V9 {f:Nat→Nat} {n k:Nat} (h:k<n):(Ys f n).getD k []=[f k]:=by
 rw [Ys,List.getD_eq_getElem?_getD,List.getElem?_map,List.getElem?_range h]
 rfl
theorem U7 (v:Nat) (x:Int):evL [v] x=(v:Int):=by
 show 0+(v:Int)*x^0=_
 rw [Int.pow_zero]
 omega
theorem Js {p:Nat} (hp:0<p) (a b:Nat):Cg p (jg p a b:Int) ((a:Int)-(b:Int)) :=
 (VM _ _).trans ((Cg.rfl'.add (UV p b hp)).trans (Cg.of_eq (by omega)))
theorem zK3 {p:Nat} (hp:1<p) (a b:List Nat) (x:Int):Cg p (evL (ye p a b) x) (evL a x-evL b x):=by
 unfold ye
 refine (Jw a _ x).trans ((Cg.rfl'.add ((KS b _ x).trans ((UV p 1 (by omega)).mul Cg.rfl'))).trans (Cg.of_eq ?_))
 rw [show (((1:Nat):Int))=1 from rfl,Int.neg_mul,Int.one_mul]
 omega
theorem yB {p:Nat} (rows:List (List Nat)) (al:Nat) (x:Int):∀ i,Cg p (evL (VZ p rows al i) x) (ZY (fun j=>(X7 p al (j+1):Int)*evL (rows.getD j []) x) i)
 | 0=>Cg.rfl'
 | i+1=>by
  rw [VZ,ZY]
  exact (Jw _ _ x).trans ((yB rows al x i).add (KS _ _ x))
theorem ke {p:Nat} (rows ws:List (List Nat)) (x:Int):∀ i,Cg p (evL (JD p rows ws i) x) (ZY (fun j=>evL (ws.getD j []) x*evL (rows.getD j []) x) i)
 | 0=>Cg.rfl'
 | i+1=>by
  rw [JD,ZY]
  exact (Jw _ _ x).trans ((ke rows ws x i).add (zAt _ _ x))
theorem xD {p:Nat} (hp:1<p) (a b:Nat) (rows:List (List Nat)) (be:Nat) (x:Int):∀ i,Cg p (evL (XX p a b rows be i) x) (ZY (fun j=>(X7 p be (j+1):Int)*(evL (rows.getD (a+j) []) x*evL (rows.getD (a+b+j) []) x-evL (rows.getD (a+b+b+j) []) x)) i)
 | 0=>Cg.rfl'
 | i+1=>by
  rw [XX,ZY]
  refine (Jw _ _ x).trans ((xD hp a b rows be x i).add ((KS _ _ x).trans (Cg.rfl'.mul ?_)))
  unfold zD3
  refine (zK3 hp _ _ x).trans ?_
  obtain ⟨c,hc⟩:=zAt (p:=p) (rows.getD (a+i) []) (rows.getD (a+b+i) []) x
  exact ⟨c,by rw [←hc];omega⟩
theorem zBl {p:Nat} (f:Nat→Nat) (al n:Nat):Cg p (ZT p (VZ p (Ys f n) al n) 0:Int) (ZY (fun j=>(X7 p al (j+1):Int)*(f j:Int)) n):=by
 refine (Xr _).trans ((yB _ _ _ _).trans (Y8 _ fun j hj=>?_))
 rw [V9 hj,U7]
 exact Cg.rfl'
theorem zE4 {p:Nat} (f g:Nat→Nat) (n:Nat):Cg p (ZT p (JD p (Ys f n) (Ys g n) n) 0:Int) (ZY (fun j=>(g j:Int)*(f j:Int)) n):=by
 refine (Xr _).trans ((ke _ _ _ _).trans (Y8 _ fun j hj=>?_))
 rw [V9 hj,V9 hj,U7,U7]
 exact Cg.rfl'
theorem xV {p:Nat} (hp:1<p) {a b n:Nat} (hn:a+b+b+b=n) (f:Nat→Nat) (be:Nat):Cg p (ZT p (XX p a b (Ys f n) be b) 0:Int) (ZY (fun j=>(X7 p be (j+1):Int)*((f (a+j):Int)*(f (a+b+j):Int)-(f (a+b+b+j):Int))) b):=by
 refine (Xr _).trans ((xD hp _ _ _ _ _ _).trans (Y8 _ fun j hj=>?_))
 rw [V9 (by omega),V9 (by omega),V9 (by omega),U7,U7,U7]
 exact Cg.rfl'
def cm0 (p al:Nat) (f:Nat→Nat) (e:Nat):Nat→Nat
 | 0=>e
 | j+1=>jg p (cm0 p al f e j) (X7 p al (j+1)*f j%p)
def cm1 (p:Nat) (d f:Nat→Nat) (e:Nat):Nat→Nat
 | 0=>e
 | j+1=>jg p (cm1 p d f e j) (d j*f j%p)
def cm2 (p a b be:Nat) (f:Nat→Nat) (e:Nat):Nat→Nat
 | 0=>e
 | j+1=>jg p (cm2 p a b be f e j) (X7 p be (j+1)*jg p (f (a+j)*f (a+b+j)%p) (f (a+b+b+j))%p)
theorem UX {p:Nat} (hp:0<p) (a b:Nat):jg p a b<p:=Nat.mod_lt _ hp
theorem zs {p:Nat} {a b t u:Int} {x y:Int} (h:Cg p a (b-t)) (h2:Cg p x (a-y)) (h3:Cg p y u):Cg p x (b-(t+u)):=by
 obtain ⟨c,hc⟩:=h
 obtain ⟨d,hd⟩:=h2
 obtain ⟨e,he⟩:=h3
 exact ⟨c+d-e,by rw [Int.mul_sub,Int.mul_add,←hc,←hd,←he];omega⟩
theorem zIw {p:Nat} (hp:0<p) (al:Nat) (f:Nat→Nat) (e:Nat):∀ j,Cg p (cm0 p al f e j:Int) ((e:Int)-ZY (fun j=>(X7 p al (j+1):Int)*(f j:Int)) j)
 | 0=>Cg.of_eq (by rw [cm0,ZY];omega)
 | j+1=>by
  rw [cm0,ZY]
  exact zs (zIw hp al f e j) (Js hp _ _) (X4 _ _)
theorem zIp {p:Nat} (hp:0<p) (d f:Nat→Nat) (e:Nat):∀ j,Cg p (cm1 p d f e j:Int) ((e:Int)-ZY (fun j=>(d j:Int)*(f j:Int)) j)
 | 0=>Cg.of_eq (by rw [cm1,ZY];omega)
 | j+1=>by
  rw [cm1,ZY]
  exact zs (zIp hp d f e j) (Js hp _ _) (X4 _ _)
theorem zHx {p:Nat} (hp:0<p) (a b be:Nat) (f:Nat→Nat) (e:Nat):∀ j,Cg p (cm2 p a b be f e j:Int) ((e:Int)-ZY (fun j=>(X7 p be (j+1):Int)*((f (a+j):Int)*(f (a+b+j):Int)-(f (a+b+b+j):Int))) j)
 | 0=>Cg.of_eq (by rw [cm2,ZY];omega)
 | j+1=>by
  rw [cm2,ZY]
  refine zs (zHx hp a b be f e j) (Js hp _ _) ((X4 _ _).trans (Cg.rfl'.mul ((Js hp _ _).trans ?_)))
  obtain ⟨c,hc⟩:=X4 (p:=p) (f (a+j)) (f (a+b+j))
  exact ⟨c,by rw [←hc];omega⟩
def wgt (L:ZO) (x:Nat):List Nat:=(List.range L.block).map (J2 L.p L.block L.block.log2 ((List.range L.block).map fun i=>x^i%L.p))
theorem zAc {p:Nat} (a b:List Nat):∀ k,Cg p (KF p a b k:Int) (ZY (fun m=>(a.getD m 0:Int)*(b.getD m 0:Int)) k)
 | 0=>Cg.rfl'
 | k+1=>by
  rw [KF,ZY]
  refine (VM _ _).trans ((zAc a b k).add ((X4 _ _).trans ((Cg.mod _).mul (Cg.mod _))))
theorem zJs {L:ZO} (hL:ZU L) {cs:List (List Nat)} (hcs:∀ x∈cs,x.length=L.block) {j:Nat} (hj:j<cs.length) (x:Nat):Cg L.p (KF L.p (cs.getD j []) (wgt L x) L.block:Int) (ZT L.p ((wtD L.p cs).getD j []) x:Int):=by
 obtain ⟨hlen,t,ht⟩:=Ub hL
 have hlog:L.block=2^L.block.log2:=by rw [ht,Nat.log2_two_pow]
 refine (zAc _ _ _).trans ?_
 refine Cg.trans ?_ (Xr _).symm
 rw [zD8 hL hcs hj,←Kh _ _ (n:=L.block) (by simp),VK]
 obtain ⟨v,hv⟩:∃ v:Int,v=((Yz L.p L.block^(L.p-2)%L.p:Nat):Int):=⟨_,rfl⟩
 obtain ⟨s,hs⟩:∃ s:Int,s=((L.block^(L.p-2)%L.p:Nat):Int):=⟨_,rfl⟩
 obtain ⟨c,hc⟩:∃ c:Nat→Int,c=fun m=>(((cs.getD j []).getD m 0:Nat):Int):=⟨_,rfl⟩
 have hA:Cg L.p (ZY (fun m=>((cs.getD j []).getD m 0:Int)*((wgt L x).getD m 0:Int)) L.block) (ZY (fun m=>ZY (fun k=>c m*(s*((x:Int)^k*(v^m)^k))) L.block) L.block):=by
  refine Y8 _ fun m hm=>?_
  rw [wgt,Yp,if_pos hm]
  refine (Cg.rfl'.mul (yp _ hL.p hlen hlog hm)).trans ?_
  rw [←hv,←hs,VK,Ue,Ue]
  refine Y8 _ fun k hk=>?_
  rw [Yp,if_pos hk,hc]
  refine Cg.rfl'.mul (Cg.rfl'.mul (Cg.mul ?_ Cg.rfl'))
  exact (Cg.mod _).trans (Cg.of_eq (Int.natCast_pow _ _))
 have hB:Cg L.p (ZY (fun k=>cfI ((List.range L.block).map (J2 L.p L.block L.block.log2 (cs.getD j []))) k*(x:Int)^k) L.block) (ZY (fun k=>ZY (fun m=>c m*(s*((x:Int)^k*(v^m)^k))) L.block) L.block):=by
  refine Y8 _ fun k hk=>?_
  rw [cfI,Yp,if_pos hk]
  refine ((yp _ hL.p hlen hlog hk).mul Cg.rfl').trans ?_
  rw [←hv,←hs,VK,Ue,Int.mul_comm,Ue]
  refine Y8 _ fun m _=>Cg.of_eq ?_
  rw [hc,←Int.pow_mul,←Int.pow_mul,Nat.mul_comm m k]
  grind
 refine hA.trans (Cg.trans (Cg.of_eq ?_) hB.symm)
 exact Uo (fun m k=>c m*(s*((x:Int)^k*(v^m)^k))) L.block L.block
theorem zFs {L:ZO} (hL:ZU L) {cs:List (List Nat)} (hcs:∀ x∈cs,x.length=L.block) (al be:Nat) (a b c:List Nat) (x:Nat) {v:List Nat} (hv:v.length=L.a+L.b+L.b+L.b) (hcl:cs.length=v.length) :
  [cm0 L.p al (fun k=>v.getD k 0) (ZT L.p a x) v.length,cm1 L.p (fun j=>KF L.p (cs.getD j []) (wgt L x) L.block) (fun k=>v.getD k 0) (ZT L.p b x) v.length,cm2 L.p L.a L.b be (fun k=>v.getD k 0) (ZT L.p c x) L.b]=UN L cs al be a b c x v:=by
 have hp:=Zr hL.p
 have l0:∀ e,e<L.p→∀ j,cm0 L.p al (fun k=>v.getD k 0) e j<L.p:=fun e he j=>by
  cases j with
  | zero=>exact he
  | succ j=>exact UX (by omega) _ _
 have l1:∀ d e,e<L.p→∀ j,cm1 L.p d (fun k=>v.getD k 0) e j<L.p:=fun d e he j=>by
  cases j with
  | zero=>exact he
  | succ j=>exact UX (by omega) _ _
 have l2:∀ e,e<L.p→∀ j,cm2 L.p L.a L.b be (fun k=>v.getD k 0) e j<L.p:=fun e he j=>by
  cases j with
  | zero=>exact he
  | succ j=>exact UX (by omega) _ _
 unfold UN
 congr 1
 ·refine Cg.eq (p:=L.p) ((zIw (by omega) _ _ _ _).trans (Cg.trans ?_ (Js (by omega) _ _).symm)) (l0 _ (XP (by omega) _ _) _) (UX (by omega) _ _)
  obtain ⟨d,hd⟩:=zBl (p:=L.p) (fun k=>v.getD k 0) al v.length
  exact ⟨d,by rw [←hd];omega⟩
 congr 1
 ·refine Cg.eq (p:=L.p) ((zIp (by omega) _ _ _ _).trans (Cg.trans ?_ (Js (by omega) _ _).symm)) (l1 _ _ (XP (by omega) _ _) _) (UX (by omega) _ _)
  have h1:Cg L.p (ZT L.p (JD L.p (Ys (fun k=>v.getD k 0) v.length) (Ys (fun k=>ZT L.p ((wtD L.p cs).getD k []) x) v.length) v.length) 0:Int) (ZY (fun j=>((ZT L.p ((wtD L.p cs).getD j []) x:Nat):Int)*((v.getD j 0:Nat):Int)) v.length):=zE4 (p:=L.p) (fun k=>v.getD k 0) (fun k=>ZT L.p ((wtD L.p cs).getD k []) x) v.length
  have h2:Cg L.p (ZY (fun j=>((KF L.p (cs.getD j []) (wgt L x) L.block:Nat):Int)*((v.getD j 0:Nat):Int)) v.length) (ZY (fun j=>((ZT L.p ((wtD L.p cs).getD j []) x:Nat):Int)*((v.getD j 0:Nat):Int)) v.length) :=
   Y8 _ fun j hj=>(zJs hL hcs (by omega) x).mul Cg.rfl'
  obtain ⟨d,hd⟩:=h1
  obtain ⟨e,he⟩:=h2
  exact ⟨d-e,by rw [Int.mul_sub,←hd,←he];omega⟩
 congr 1
 ·refine Cg.eq (p:=L.p) ((zHx (by omega) _ _ _ _ _ _).trans (Cg.trans ?_ (Js (by omega) _ _).symm)) (l2 _ (XP (by omega) _ _) _) (UX (by omega) _ _)
  obtain ⟨d,hd⟩:=xV (p:=L.p) (by omega) hv.symm (fun k=>v.getD k 0) be
  exact ⟨d,by rw [←hd];omega⟩
end Go.Proofs.YtakjnmojigechaaGreat
