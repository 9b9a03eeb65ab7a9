/- A part of the proof. No condition. -/
import Derived.Test.YtdhhdplholkmdaaGreatProg
import Derived.Test.YtdhhdplholkmdaaGreatPE22

namespace Go.Proofs.YtdhhdplholkmdaaGreat
open Go.RowKit
structure Tab27 (p:Nat) (pub vars:Int) (rows:List Zv) (ws:List Nat) (s:Bool):Prop where
 tab:Zr p pub vars rows=true
 asg:ZJ p vars ws=true
 small:JY rows
 few:rows.length≤12
 sat:Xi p rows ws=s
end Go.Proofs.YtdhhdplholkmdaaGreat
