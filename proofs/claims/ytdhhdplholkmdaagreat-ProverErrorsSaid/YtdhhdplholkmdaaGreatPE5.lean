/- A part of the proof. No condition. -/
import Derived.Test.YtdhhdplholkmdaaGreatProg
import Derived.Test.YtdhhdplholkmdaaGreatPE1

namespace Go.Proofs.YtdhhdplholkmdaaGreat
open Go.RowKit
theorem V6:(Tryz.prog.info? 22).map (fun i=>(i.zero,i.size,i.bytes))=some (some (.int .u64 0),1,8):=by kernel_rfl
theorem Y4:Jm Tryz.prog 28 22 1 8 (.int .u64 0):=by
 obtain ⟨i0,hi,hz0,hz1,hz2⟩:=info_parts V6
 exact ⟨Tryz.underlying28,⟨i0,hi,hz0,hz1,hz2⟩,rfl,by omega⟩
def digs:Nat→Nat→List Nat
 | _,0=>[]
 | n,k+1=>n%256 :: digs (n / 256) k
end Go.Proofs.YtdhhdplholkmdaaGreat
