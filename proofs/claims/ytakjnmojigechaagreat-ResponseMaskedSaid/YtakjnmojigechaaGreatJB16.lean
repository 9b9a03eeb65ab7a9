/- A part of the proof. No condition. -/
import Derived.Test.YtakjnmojigechaaGreatProg
import Derived.Test.YtakjnmojigechaaGreatJB12
import Derived.Test.YtakjnmojigechaaGreatJB13

namespace Go.Proofs.YtakjnmojigechaaGreat
open Go.RowKit
def Gm (p b i:Nat):Nat:=if i=0 then p-1 else if i=b then 1 else 0
def XC (p b:Nat):List Nat:=(List.range (b+1)).map (Gm p b)
end Go.Proofs.YtakjnmojigechaaGreat
