/- A part of the proof. No condition. -/
import Derived.Test.YtjipleoamlmkfaaGreatProg
import Derived.Test.YtjipleoamlmkfaaGreatPF25
import Derived.Test.YtjipleoamlmkfaaGreatPF31
import Derived.Test.YtjipleoamlmkfaaGreatPF22
import Derived.Test.YtjipleoamlmkfaaGreatPF36

set_option maxRecDepth 100000
set_option maxHeartbeats 8000000
set_option linter.unusedVariables false
set_option linter.unusedSimpArgs false
namespace Go.Proofs.YtjipleoamlmkfaaGreat
open Go.RowKit
theorem gM (p:Nat) (pub vars:Int) (rows:List Ya):pd p pub vars rows<18446744073709551616:=by
 unfold pd;split
 ·exact Ti (WB _ _)
 ·decide
theorem yD {F:Nat -> Prop} {N g:Nat} (hg:F g):∀ (xs:List Value) (w:World),Kf F N w (ng w g xs 0):=fun xs w=>go xs 0 w
where
 go:∀ (xs:List Value) (k:Nat) (w:World),Kf F N w (ng w g xs k)
  | [],_,w=>(Cb F N).refl w
  | x :: r,k,w=>(Cb F N).trans _ _ _ (show Kf F N w (w.setCell ⟨g,k,none⟩ x) from DH hg x) (go r (k+1) _)
end Go.Proofs.YtjipleoamlmkfaaGreat
