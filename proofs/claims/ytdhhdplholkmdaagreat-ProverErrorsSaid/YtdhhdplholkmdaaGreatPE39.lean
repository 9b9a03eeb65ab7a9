/- A part of the proof. No condition. -/
import Derived.Test.YtdhhdplholkmdaaGreatProg
import Derived.Test.YtdhhdplholkmdaaGreatPE37
import Derived.Test.YtdhhdplholkmdaaGreatPE33
import Derived.Test.YtdhhdplholkmdaaGreatPE26
import Derived.Test.YtdhhdplholkmdaaGreatPE35

namespace Go.Proofs.YtdhhdplholkmdaaGreat
open Go.RowKit
structure RefOk (O:Orc) (k:Nat):Prop where
 fair:Fair O
 ans:Kt O
 le:OrcLe O k
 st:O.st<18446744073709551616
structure TrOk (s:Tr) (k c:Nat):Prop where
 o:RefOk s.O k
 st:s.st<18446744073709551616
 ct:s.ct≤c
end Go.Proofs.YtdhhdplholkmdaaGreat
