/- A part of the proof: ReXb. No condition. -/
import Derived.Test.YtakjnmojigechaaGreatJA45
import Derived.Test.YtakjnmojigechaaGreatJA43

namespace Go.Proofs.YtakjnmojigechaaGreat
def ansRow (L : LayR) (m r : List (List Nat)) (i : Nat) : Nat → Nat := mrowP L (m.getD i []) (r.getD i [])
def ansLst (L : LayR) (m r : List (List Nat)) (i : Nat) : List Nat := (List.range L.k).map (ansRow L m r i)
def ansD (L : LayR) (cs m r : List (List Nat)) (i : Nat) : Nat → Nat :=
  mulF L.p (fitsN (L.k + L.block - 1)) ((L.k + L.block - 1 - 1).log2 + 1) ((List.range L.block).map (invP L.p L.block L.block.log2 (cs.getD i []))) (ansLst L m r i)
def ansXY (L : LayR) (m r : List (List Nat)) (j : Nat) : Nat → Nat :=
  mulF L.p (fitsN (2 * L.k - 1)) ((2 * L.k - 1 - 1).log2 + 1) (ansLst L m r (L.a + j)) (ansLst L m r (L.a + L.b + j))
def ansZ (L : LayR) (m r : List (List Nat)) (j : Nat) : Nat → Nat := ansRow L m r (L.a + L.b + L.b + j)
end Go.Proofs.YtakjnmojigechaaGreat
