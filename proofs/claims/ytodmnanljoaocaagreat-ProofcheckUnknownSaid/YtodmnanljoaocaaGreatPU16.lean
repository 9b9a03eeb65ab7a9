/- A part of the proof. No condition. -/
import Derived.Test.YtodmnanljoaocaaGreatPU14

set_option maxRecDepth 100000
set_option maxHeartbeats 8000000
set_option linter.unusedVariables false
set_option linter.unusedSimpArgs false
namespace Go.Proofs.YtodmnanljoaocaaGreat
open Go.RowKit
open Tryz
open Go renaming World->vv, Value->vw
structure SetIn (w:vv) (L:Xa) (p pu:Nat) (vars:Int) (rows:List Ya) (ws:List Nat) (de:Nat) (vm c0 c1 c2 c3 c4:vw) (M:List (List Nat)):Prop where
 ok:ed L
 p:L.p=p
 tf:Px L pu vars rows
 vo:LD vars rows
 len:1+pu <= ws.length
 ws:∀ x∈ws,x<L.p
 ml:M.length=L.a+L.b+L.b+L.b
 mr:∀ x∈M,x.length=L.block
 mlt:∀ x∈M,∀ y∈x,y<L.p
 m:Ye w [vm] M
 r:Ye w [c0] (Cy L de (L.a+L.b+L.b+L.b))
 co:RWd w [c1] (wi L.p de [1] L.k)
 li:RWd w [c2] (wi L.p de [2] (L.k+L.block-2))
 qu:RWd w [c3] (wi L.p de [3] (L.block+2*L.queries-1))
 sa:RWd w [c4] (wi Ob de [4] L.n)
end Go.Proofs.YtodmnanljoaocaaGreat
