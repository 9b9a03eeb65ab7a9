/- A part of the proof. No condition. -/
import Derived.Test.YteoghgbnielkpaaGreatTH16

set_option maxRecDepth 100000
set_option maxHeartbeats 8000000
set_option linter.unusedVariables false
set_option linter.unusedSimpArgs false
namespace Go.Proofs.YteoghgbnielkpaaGreat
open Go.RowKit
open Tryz
open Go renaming World->vw, Value->vx
structure SetIn (w:vw) (L:Ra) (p pu:Nat) (vars:Int) (rows:List Ya) (ws:List Nat) (seed:Nat) (vm c0 c1 c2 c3 c4:vx) (M:List (List Nat)):Prop where
 ok:Rb L
 p:L.p=p
 tf:cu L pu vars rows
 vo:ox vars rows
 len:1+pu <= ws.length
 ws:∀ x∈ws,x<L.p
 ml:M.length=L.a+L.b+L.b+L.b
 mr:∀ x∈M,x.length=L.block
 mlt:∀ x∈M,∀ y∈x,y<L.p
 m:mg w [vm] M
 r:mg w [c0] (tA L seed (L.a+L.b+L.b+L.b))
 co:RWd w [c1] (yc L.p seed [1] L.k)
 li:RWd w [c2] (yc L.p seed [2] (L.k+L.block-2))
 qu:RWd w [c3] (yc L.p seed [3] (L.block+2*L.queries-1))
 sa:RWd w [c4] (yc Za seed [4] L.n)
theorem S5 (x b:Nat) (hb:0<b):(x:Int)%(b:Int)=((x%b:Nat):Int) /\ (x:Int).tmod (b:Int)=((x%b:Nat):Int) /\ (x:Int) / (b:Int)=((x / b:Nat):Int) /\ (x:Int).tdiv (b:Int)=((x / b:Nat):Int) /\ ((b:Int) == 0)=false /\ ¬((b:Int)=0) /\ ¬(b=0) :=
 ⟨rfl,rfl,rfl,by rw [yG (by omega)];rfl,by rw [pd];omega,by omega,by omega⟩
end Go.Proofs.YteoghgbnielkpaaGreat
