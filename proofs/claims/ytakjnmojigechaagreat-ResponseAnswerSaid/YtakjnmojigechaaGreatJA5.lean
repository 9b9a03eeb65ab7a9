/- A part of the proof: WireA. No condition. -/
import Derived.Test.YtakjnmojigechaaGreatJA1

namespace Go.Proofs.YtakjnmojigechaaGreat
open Go.RowKit
theorem info_u64 : (Tryz.prog.info? 22).map (fun i => (i.zero, i.size, i.bytes)) = some (some (.int .u64 0), 1, 8) := by kernel_rfl
end Go.Proofs.YtakjnmojigechaaGreat
