/- A part of the proof. No condition. -/
import Derived.Test.YtbiieaiahdihnaaProg
import Derived.Test.YtbiieaiahdihnaaOP17
import Derived.Test.YtbiieaiahdihnaaOP14

namespace Go.Proofs.Ytbiieaiahdihnaa
open Go.RowKit
def Zg:Nat:=18446744069414584321
theorem Ve:okP Zg=true:=by decide
end Go.Proofs.Ytbiieaiahdihnaa
