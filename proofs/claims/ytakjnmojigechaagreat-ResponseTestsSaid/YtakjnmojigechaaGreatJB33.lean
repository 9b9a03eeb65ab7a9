/- A part of the proof. No condition. -/
import Derived.Test.YtakjnmojigechaaGreatProg
import Derived.Test.YtakjnmojigechaaGreatJB31

namespace Go.Proofs.YtakjnmojigechaaGreat
open Go.RowKit
theorem Xc {w w':World} {base:Nat} {e:TypeId} {size:Nat} {v:Value} {n:Nat} {xs:List Value} {u:Option Nat} (h:w.ownsRow base e size v n xs) (hg:w.grownBy w' u) (hne:∀ q,v.ownBlock=some q→u=some q→False):w'.ownsRow base e size v n xs:=by
 obtain ⟨h1,h2⟩:=h
 refine ⟨h1,?_⟩
 rcases h2 with h2 | ⟨g,cap,cur,hv,hgb,hh,r⟩
 ·exact Or.inl h2
 ·exact Or.inr ⟨g,cap,cur,hv,hgb,by rw [hg.block g (Array.getElem?_eq_some_iff.1 hh).1 (fun e=>hne g (by rw [hv];rfl) e.symm)];exact hh,r⟩
end Go.Proofs.YtakjnmojigechaaGreat
