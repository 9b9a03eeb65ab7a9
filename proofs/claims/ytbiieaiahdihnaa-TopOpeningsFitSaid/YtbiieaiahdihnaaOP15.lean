/- A part of the proof. No condition. -/
import Derived.Test.YtbiieaiahdihnaaProg
import Derived.Test.YtbiieaiahdihnaaOP13
import Derived.Test.YtbiieaiahdihnaaOP14

namespace Go.Proofs.Ytbiieaiahdihnaa
open Go.RowKit
theorem UA (f:Nat→Nat) (n k:Nat):ZD n (Vk (fun i=>if i<k then f i else 0) k (f k))=ZD n fun i=>if i<k+1 then f i else 0:=by
 refine Xg fun i _=>?_
 simp only [Vk]
 by_cases h:i=k
 ·subst h;rw [if_pos rfl,if_pos (by omega)]
 ·rw [if_neg h]
  by_cases h2:i<k
  ·rw [if_pos h2,if_pos (by omega)]
  ·rw [if_neg h2,if_neg (by omega)]
end Go.Proofs.Ytbiieaiahdihnaa
