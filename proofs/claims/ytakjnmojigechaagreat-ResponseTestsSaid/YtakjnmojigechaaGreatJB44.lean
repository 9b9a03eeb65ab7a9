/- A part of the proof. No condition. -/
import Derived.Test.YtakjnmojigechaaGreatProg
import Derived.Test.YtakjnmojigechaaGreatJB43

namespace Go.Proofs.YtakjnmojigechaaGreat
open Go.RowKit
theorem Ux {L:ZO} {a b c:List Nat} (h:Vc L a b c=true):a.length=L.k∧b.length=L.k+L.block-1∧c.length=2*L.k-1:=by
 unfold Vc at h
 simp only [Bool.and_eq_true,decide_eq_true_eq] at h
 omega
end Go.Proofs.YtakjnmojigechaaGreat
