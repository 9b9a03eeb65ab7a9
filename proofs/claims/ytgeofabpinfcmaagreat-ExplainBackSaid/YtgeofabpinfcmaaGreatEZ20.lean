/- A part of the proof. No condition. -/
import Derived.Test.YtgeofabpinfcmaaGreatProg
import Derived.Test.YtgeofabpinfcmaaGreatEZ10
import Derived.Test.YtgeofabpinfcmaaGreatEZ18
import Derived.Test.YtgeofabpinfcmaaGreatEZ19

set_option maxRecDepth 100000
set_option maxHeartbeats 8000000
set_option linter.unusedVariables false
set_option linter.unusedSimpArgs false
namespace Go.Proofs.YtgeofabpinfcmaaGreat
open Go.RowKit
def zq (p pu x:Nat) (f:Nat -> Nat) (t:Int × Nat):Nat -> Nat :=
 if 0 <= t.1-1-(pu:Int) then ef f (t.1-1-(pu:Int)).toNat ((f (t.1-1-(pu:Int)).toNat+oc p (x*t.2%p))%p) else f
def Yk (p pu x:Nat) (f:Nat -> Nat) (ts:List (Int × Nat)):Nat -> (Nat -> Nat)
 | 0=>f
 | t+1=>zq p pu x (Yk p pu x f ts t) (ts.getD t (0,0))
def Zu (p pu n rho:Nat) (r:Cb) (i:Nat) (f:Nat -> Nat):Nat -> (Nat -> Nat)
 | 0=>f
 | j+1=>Yk p pu (rho^(j*n+i)%p) (Zu p pu n rho r i f j) (Mc r j) (Mc r j).length
def gD (p pu n rho:Nat) (rows:List Cb):Nat -> (Nat -> Nat)
 | 0=>fun _=>0
 | i+1=>Zu p pu n rho (rows.getD i ⟨[],[],[]⟩) i (gD p pu n rho rows i) 3
def Cf (p n rho k:Nat):List Nat:=(List.range n).map fun i=>rho^(k*n+i)%p
def iw (L:Ja) (pu rho:Nat) (rows:List Cb):List (List Nat) :=
 sj L.block (Zc ((List.range L.secret).map (gD L.p pu rows.length rho rows rows.length)) (Cf L.p rows.length rho 0) (Cf L.p rows.length rho 1) (Cf L.p rows.length rho 2)) (Zc L.a L.b L.b L.b)
theorem gG {w:World} {A:Option Addr} {n c k:Nat} {l:List Nat} (h:RWd w [.slice A n c] l) (hk:k <= n):RWd w [.slice A k c] (l.take k):=by
 obtain ⟨hn,hc,hm,za,hr⟩:=Ra h;exact ⟨_,_,_,rfl,by omega,hm,EM hr hk,fun x hx=>za x (List.mem_of_mem_take hx)⟩
theorem UM {w:World} {v0 v1 v2 v3:Value} {l0 l1 l2 l3:List Nat} (h0:RWd w [v0] l0) (h1:RWd w [v1] l1) (h2:RWd w [v2] l2) (h3:RWd w [v3] l3):∀ i,i<4 -> RWd w [Zc v0 v1 v2 v3 i] (Zc l0 l1 l2 l3 i):=fun i h=>by
 rcases (show i=0 \/ i=1 \/ i=2 \/ i=3 by omega) with rfl | rfl | rfl | rfl
 ·exact h0
 ·exact h1
 ·exact h2
 ·exact h3
def mn (vars:Int) (rows:List Cb):Prop:=∀ r∈rows,∀ k,k<3 -> ∀ t∈Mc r k,0 <= t.1 /\ t.1<vars
end Go.Proofs.YtgeofabpinfcmaaGreat
