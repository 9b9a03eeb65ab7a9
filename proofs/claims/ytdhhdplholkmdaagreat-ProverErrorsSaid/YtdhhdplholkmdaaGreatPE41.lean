/- A part of the proof. No condition. -/
import Derived.Carry
import Derived.Deep.AppendLies
import Derived.Laws.OwnMore
import Derived.Maps.OwnSet
import Derived.Maps.Views
import Derived.Test.YtdhhdplholkmdaaGreatProg
import Derived.Test.YtdhhdplholkmdaaGreatPE40
import Derived.Test.YtdhhdplholkmdaaGreatPE34

namespace Go.Proofs.YtdhhdplholkmdaaGreat
open Go.RowKit
theorem V4 (real:Bool) (seed:Nat):(V9 real seed).qs=[]:=by cases real <;> rfl
end Go.Proofs.YtdhhdplholkmdaaGreat
