/- A part of the proof. No condition. -/
import Derived.StillTailTactics
import Derived.Test.YtbiieaiahdihnaaProg
import Derived.Test.YtbiieaiahdihnaaOP18

namespace Go.Proofs.Ytbiieaiahdihnaa
open Go.RowKit
def St.lt (p:Nat) (s:St):Prop:=s.a<p∧s.b<p∧s.c<p
theorem XY {p:Nat} (hp:0<p) (s:St):(Yq p s).lt p:=⟨Nat.mod_lt _ hp,Nat.mod_lt _ hp,Nat.mod_lt _ hp⟩
theorem GR {p:Nat} (hp:0<p):∀ (l:List Nat) (s:St),s.lt p→(Xz p l s).lt p
 | [],_,h=>h
 | [_],_,_=>XY hp _
 | _ :: _ :: r,_,_=>GR hp r _ (XY hp _)
end Go.Proofs.Ytbiieaiahdihnaa
