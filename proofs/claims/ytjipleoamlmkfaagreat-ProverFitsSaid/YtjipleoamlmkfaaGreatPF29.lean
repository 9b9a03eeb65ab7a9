/- A part of the proof. No condition. -/
import Derived.Test.YtjipleoamlmkfaaGreatProg
import Derived.Test.YtjipleoamlmkfaaGreatPF20
import Derived.Test.YtjipleoamlmkfaaGreatPF17
import Derived.Test.YtjipleoamlmkfaaGreatPF28

set_option maxRecDepth 100000
set_option maxHeartbeats 8000000
set_option linter.unusedVariables false
set_option linter.unusedSimpArgs false
namespace Go.Proofs.YtjipleoamlmkfaaGreat
open Go.RowKit
def YB (p pu x:Nat) (f:Nat -> Nat) (t:Int × Nat):Nat -> Nat :=
 if 0 <= t.1-1-(pu:Int) then Pe f (t.1-1-(pu:Int)).toNat ((f (t.1-1-(pu:Int)).toNat+xg p (x*t.2%p))%p) else f
def cy (p pu x:Nat) (f:Nat -> Nat) (ts:List (Int × Nat)):Nat -> (Nat -> Nat)
 | 0=>f
 | t+1=>YB p pu x (cy p pu x f ts t) (ts.getD t (0,0))
def tu (p pu n ra:Nat) (r:Ya) (i:Nat) (f:Nat -> Nat):Nat -> (Nat -> Nat)
 | 0=>f
 | j+1=>cy p pu (ra^(j*n+i)%p) (tu p pu n ra r i f j) (Dd r j) (Dd r j).length
def tF (p pu n ra:Nat) (rows:List Ya):Nat -> (Nat -> Nat)
 | 0=>fun _=>0
 | i+1=>tu p pu n ra (rows.getD i ⟨[],[],[]⟩) i (tF p pu n ra rows i) 3
def Sf (p n ra k:Nat):List Nat:=(List.range n).map fun i=>ra^(k*n+i)%p
def dt (L:Va) (pu ra:Nat) (rows:List Ya):List (List Nat) :=
 Io L.block (xe ((List.range L.secret).map (tF L.p pu rows.length ra rows rows.length)) (Sf L.p rows.length ra 0) (Sf L.p rows.length ra 1) (Sf L.p rows.length ra 2)) (xe L.a L.b L.b L.b)
theorem RB {w:World} {A:Option Addr} {n c k:Nat} {l:List Nat} (h:RWd w [.slice A n c] l) (hk:k <= n):RWd w [.slice A k c] (l.take k):=by
 obtain ⟨hn,hc,hm,oa,hr⟩:=zb h;exact ⟨_,_,_,rfl,by omega,hm,JR hr hk,fun x hx=>oa x (List.mem_of_mem_take hx)⟩
theorem mK {w:World} {v0 v1 v2 v3:Value} {l0 l1 l2 l3:List Nat} (h0:RWd w [v0] l0) (h1:RWd w [v1] l1) (h2:RWd w [v2] l2) (h3:RWd w [v3] l3):∀ i,i<4 -> RWd w [xe v0 v1 v2 v3 i] (xe l0 l1 l2 l3 i):=fun i h=>by
 rcases (show i=0 \/ i=1 \/ i=2 \/ i=3 by omega) with rfl | rfl | rfl | rfl
 ·exact h0
 ·exact h1
 ·exact h2
 ·exact h3
def pA (vars:Int) (rows:List Ya):Prop:=∀ r∈rows,∀ k,k<3 -> ∀ t∈Dd r k,0 <= t.1 /\ t.1<vars
end Go.Proofs.YtjipleoamlmkfaaGreat
