/- A part of the proof. No condition. -/
import Derived.Test.YtakjnmojigechaaGreatProg
import Derived.Test.YtakjnmojigechaaGreatJB12
import Derived.Test.YtakjnmojigechaaGreatJB21
import Derived.Test.YtakjnmojigechaaGreatJB18

namespace Go.Proofs.YtakjnmojigechaaGreat
open Go.RowKit
def JT (p pu x:Nat) (f:Nat→Nat) (t:Int × Nat):Nat→Nat :=
 if 0≤t.1-1-(pu:Int) then VB f (t.1-1-(pu:Int)).toNat ((f (t.1-1-(pu:Int)).toNat+Y1 p (x*t.2%p))%p) else f
def Kq (p pu x:Nat) (f:Nat→Nat) (ts:List (Int × Nat)):Nat→(Nat→Nat)
 | 0=>f
 | t+1=>JT p pu x (Kq p pu x f ts t) (ts.getD t (0,0))
def jk (p pu n rho:Nat) (r:Ya) (i:Nat) (f:Nat→Nat):Nat→(Nat→Nat)
 | 0=>f
 | j+1=>Kq p pu (rho^(j*n+i)%p) (jk p pu n rho r i f j) (YA r j) (YA r j).length
def zDh (p pu n rho:Nat) (rows:List Ya):Nat→(Nat→Nat)
 | 0=>fun _=>0
 | i+1=>jk p pu n rho (rows.getD i ⟨[],[],[]⟩) i (zDh p pu n rho rows i) 3
def pwL (p n rho k:Nat):List Nat:=(List.range n).map fun i=>rho^(k*n+i)%p
def Kl (L:ZO) (pu rho:Nat) (rows:List Ya):List (List Nat) :=
 Ga L.block (Yg ((List.range L.secret).map (zDh L.p pu rows.length rho rows rows.length)) (pwL L.p rows.length rho 0) (pwL L.p rows.length rho 1) (pwL L.p rows.length rho 2)) (Yg L.a L.b L.b L.b)
theorem UM {w:World} {A:Option Addr} {n c k:Nat} {l:List Nat} (h:RWd w [.slice A n c] l) (hk:k≤n):RWd w [.slice A k c] (l.take k):=by
 obtain ⟨hn,hc,hm,hlt,hr⟩:=Zy h
 exact ⟨_,_,_,rfl,by omega,hm,zEh hr hk,fun x hx=>hlt x (List.mem_of_mem_take hx)⟩
theorem zAs {w:World} {v0 v1 v2 v3:Value} {l0 l1 l2 l3:List Nat} (h0:RWd w [v0] l0) (h1:RWd w [v1] l1) (h2:RWd w [v2] l2) (h3:RWd w [v3] l3):∀ i,i<4→RWd w [Yg v0 v1 v2 v3 i] (Yg l0 l1 l2 l3 i):=fun i h=>by
 rcases (show i=0∨i=1∨i=2∨i=3 by omega) with rfl | rfl | rfl | rfl
 ·exact h0
 ·exact h1
 ·exact h2
 ·exact h3
def VE (vars:Int) (rows:List Ya):Prop:=∀ r∈rows,∀ k,k<3→∀ t∈YA r k,0≤t.1∧t.1<vars
end Go.Proofs.YtakjnmojigechaaGreat
