/- A part of the proof. No condition. -/
import Derived.Test.YteoghgbnielkpaaGreatTC13

set_option maxRecDepth 100000
set_option maxHeartbeats 8000000
set_option linter.unusedVariables false
set_option linter.unusedSimpArgs false
namespace Go.Proofs.YteoghgbnielkpaaGreat
open Go.RowKit
open Tryz
open Go renaming World->vw, Value->vx
structure SetIn (w:vw) (L:Ma) (p pu:Nat) (vars:Int) (rows:List Ua) (ws:List Nat) (pd:Nat) (vm c0 c1 c2 c3 c4:vx) (M:List (List Nat)):Prop where
 ok:Lb L
 p:L.p=p
 tf:eu L pu vars rows
 vo:Dx vars rows
 len:1+pu <= ws.length
 ws:∀ x∈ws,x<L.p
 ml:M.length=L.a+L.b+L.b+L.b
 mr:∀ x∈M,x.length=L.block
 mlt:∀ x∈M,∀ y∈x,y<L.p
 m:Jg w [vm] M
 r:Jg w [c0] (rowsP L pd (L.a+L.b+L.b+L.b))
 co:RWd w [c1] (re L.p pd [1] L.k)
 li:RWd w [c2] (re L.p pd [2] (L.k+L.block-2))
 qu:RWd w [c3] (re L.p pd [3] (L.block+2*L.queries-1))
 sa:RWd w [c4] (re zb pd [4] L.n)
theorem L8 (x b:Nat) (hb:0<b):(x:Int)%(b:Int)=((x%b:Nat):Int) /\ (x:Int).tmod (b:Int)=((x%b:Nat):Int) /\ (x:Int) / (b:Int)=((x / b:Nat):Int) /\ (x:Int).tdiv (b:Int)=((x / b:Nat):Int) /\ ((b:Int) == 0)=false /\ ¬((b:Int)=0) /\ ¬(b=0) :=
 ⟨rfl,rfl,rfl,by rw [CJ (by omega)];rfl,by rw [Gd];omega,by omega,by omega⟩
end Go.Proofs.YteoghgbnielkpaaGreat
