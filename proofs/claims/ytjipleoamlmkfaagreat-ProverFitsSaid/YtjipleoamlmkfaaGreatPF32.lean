/- A part of the proof. No condition. -/
import Derived.Test.YtjipleoamlmkfaaGreatProg
import Derived.Test.YtjipleoamlmkfaaGreatPF31
import Derived.Test.YtjipleoamlmkfaaGreatPF22

set_option maxRecDepth 100000
set_option maxHeartbeats 8000000
set_option linter.unusedVariables false
set_option linter.unusedSimpArgs false
namespace Go.Proofs.YtjipleoamlmkfaaGreat
def Zu (L:Va) (m r:List (List Nat)) (i:Nat):Nat -> Nat:=Nn L (m.getD i []) (r.getD i [])
def sA (L:Va) (m r:List (List Nat)) (i:Nat):List Nat:=(List.range L.k).map (Zu L m r i)
def Fy (L:Va) (cs m r:List (List Nat)) (i:Nat):Nat -> Nat :=
 Jx L.p (Th (L.k+L.block-1)) ((L.k+L.block-1-1).log2+1) ((List.range L.block).map (Bn L.p L.block L.block.log2 (cs.getD i []))) (sA L m r i)
def tA (L:Va) (m r:List (List Nat)) (j:Nat):Nat -> Nat :=
 Jx L.p (Th (2*L.k-1)) ((2*L.k-1-1).log2+1) (sA L m r (L.a+j)) (sA L m r (L.a+L.b+j))
def ZC (L:Va) (m r:List (List Nat)) (j:Nat):Nat -> Nat:=Zu L m r (L.a+L.b+L.b+j)
end Go.Proofs.YtjipleoamlmkfaaGreat
