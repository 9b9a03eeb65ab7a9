/- A part of the proof. No condition. -/
import Derived.Test.YtjipleoamlmkfaaGreatProg
import Derived.Test.YtjipleoamlmkfaaGreatPG37

set_option maxRecDepth 100000
set_option maxHeartbeats 8000000
set_option linter.unusedVariables false
set_option linter.unusedSimpArgs false
namespace Go.Proofs.YtjipleoamlmkfaaGreat
open Go.RowKit
structure jG (O:La) (k:Nat):Prop where
 fair:Fair O
 ans:rm O
 le:Qc O k
 st:O.st<18446744073709551616
structure TrOk (s:Tr) (k c:Nat):Prop where
 o:jG s.O k
 st:s.st<18446744073709551616
 ct:s.ct <= c
end Go.Proofs.YtjipleoamlmkfaaGreat
