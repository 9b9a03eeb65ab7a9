/- A part of the proof. No condition. -/
import Derived.Test.YtbiieaiahdihnaaProg
import Derived.Test.YtbiieaiahdihnaaOP15
import Derived.Test.YtbiieaiahdihnaaOP16

namespace Go.Proofs.Ytbiieaiahdihnaa
open Go.RowKit
theorem VP {w w':World} {base B:Nat} {e:TypeId} {size:Nat} {v:Value} {n:Nat} {xs:List Value} (h:w.ownsRow base e size v n xs) (hg:w.grownBy w' (some B)) (hB:B<base):w'.ownsRow base e size v n xs:=by
 obtain ⟨h1,h2⟩:=h
 refine ⟨h1,?_⟩
 rcases h2 with h2 | ⟨g,cap,cur,hv,hgb,hh,r⟩
 ·exact Or.inl h2
 ·exact Or.inr ⟨g,cap,cur,hv,hgb,by rw [hg.block g (Array.getElem?_eq_some_iff.1 hh).1 (fun e=>by have:=Option.some.inj e;omega)];exact hh,r⟩
theorem Vo (f:Nat→Nat) (i:Nat):(List.range i).map f++[f i]=(List.range (i+1)).map f:=by simp [List.range_succ]
end Go.Proofs.Ytbiieaiahdihnaa
