/- A part of the proof. No condition. -/
import Derived.Deep.AppendLies
import Derived.Laws.OwnMore
import Derived.Test.YtdhhdplholkmdaaGreatProg
import Derived.Test.YtdhhdplholkmdaaGreatPE26
import Derived.Test.YtdhhdplholkmdaaGreatPE27
import Derived.Test.YtdhhdplholkmdaaGreatPE25
import Derived.Test.YtdhhdplholkmdaaGreatPE24

namespace Go.Proofs.YtdhhdplholkmdaaGreat
open Go.RowKit
theorem KO (w:World) (t1 t2 t3 t4:TypeId) (cs1 cs2 cs3 cs4:Array Value) :
  Blk ((((w.alloc (.cells cs1 t1)).alloc (.cells cs2 t2)).alloc (.cells cs3 t3)).alloc (.cells cs4 t4)) w.heap.size t1 cs1∧Blk ((((w.alloc (.cells cs1 t1)).alloc (.cells cs2 t2)).alloc (.cells cs3 t3)).alloc (.cells cs4 t4)) (w.heap.size+1) t2 cs2∧Blk ((((w.alloc (.cells cs1 t1)).alloc (.cells cs2 t2)).alloc (.cells cs3 t3)).alloc (.cells cs4 t4)) (w.heap.size+1+1) t3 cs3∧Blk ((((w.alloc (.cells cs1 t1)).alloc (.cells cs2 t2)).alloc (.cells cs3 t3)).alloc (.cells cs4 t4)) (w.heap.size+1+1+1) t4 cs4 ∧
   Below w.heap.size w ((((w.alloc (.cells cs1 t1)).alloc (.cells cs2 t2)).alloc (.cells cs3 t3)).alloc (.cells cs4 t4))∧((((w.alloc (.cells cs1 t1)).alloc (.cells cs2 t2)).alloc (.cells cs3 t3)).alloc (.cells cs4 t4)).heap.size=w.heap.size+4:=by
 obtain ⟨h1,h2,h3,h4,h5⟩:=XZ w t1 t2 t3 cs1 cs2 cs3
 refine ⟨h1.alloc _,h2.alloc _,h3.alloc _,?_,h4.alloc (by omega) _,by simp⟩
 have:=Blk.new (((w.alloc (.cells cs1 t1)).alloc (.cells cs2 t2)).alloc (.cells cs3 t3)) t4 cs4
 rw [h5] at this
 exact this
structure DigOk (p:Nat) (pub vars:Int) (rows:List Zv):Prop where
 pl:p<18446744073709551616
 pubI:0≤pub∧pub<9223372036854775808
 varI:0≤vars∧vars<9223372036854775808
 n:rows.length≤16384
 sides:∀ r∈rows,∀ k,k<3→(Uc r k).length≤100000
 terms:∀ r∈rows,∀ k,k<3→∀ t∈Uc r k,0≤t.1∧t.1<9223372036854775808∧t.2<18446744073709551616
 len:(digN p pub vars rows).length≤1000000
end Go.Proofs.YtdhhdplholkmdaaGreat
