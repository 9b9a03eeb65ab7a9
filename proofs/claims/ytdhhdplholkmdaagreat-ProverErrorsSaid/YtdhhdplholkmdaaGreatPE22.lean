/- A part of the proof. No condition. -/
import Derived.Test.YtdhhdplholkmdaaGreatProg
import Derived.Test.YtdhhdplholkmdaaGreatPE21
import Derived.Test.YtdhhdplholkmdaaGreatPE9

namespace Go.Proofs.YtdhhdplholkmdaaGreat
open Go.RowKit
set_option maxRecDepth 100000 in
theorem UE (y0 y1 y2 y3 y4 y5 y6:Int) (a b c d:Nat) (w:World) (ha:a≤100000) (hb:b≤100000) (hc:c≤100000) (hd:d≤100000) :
  Calls Tryz.prog 49 #[.agg #[.int .u64 y0, .int .i64 y1, .int .i64 y2, .int .i64 y3, .int .i64 y4, .int .i64 y5, .int .i64 y6, .int .i64 (a:Int), .int .i64 (b:Int), .int .i64 (c:Int), .int .i64 (d:Int)]] w fun e w'=>e= .returned (.int .i64 ((a+b+c+d:Nat):Int))∧Below w.heap.size w w':=by
 have i1:(a:Int)≤100000:=by omega
 have i2:(b:Int)≤100000:=by omega
 have i3:(c:Int)≤100000:=by omega
 have i4:(d:Int)≤100000:=by omega
 go_enter Tryz.func49,Tryz.ntmps49
 go_wp2_with fail
 go_ret
 exact ⟨by simp,(Below.refl _ _).alloc (Nat.le_refl _) _⟩
set_option maxRecDepth 100000 in
theorem X7 (y0 y1 y2 y3 y4 y5 y6:Int) (a b c d:Nat) (w:World) (ha:a≤100000) (hb:b≤100000) (hc:c≤100000) (hd:d≤100000) :
  Calls Tryz.prog 68 #[.agg #[.int .u64 y0, .int .i64 y1, .int .i64 y2, .int .i64 y3, .int .i64 y4, .int .i64 y5, .int .i64 y6, .int .i64 (a:Int), .int .i64 (b:Int), .int .i64 (c:Int), .int .i64 (d:Int)]] w fun e w'=>e= .returned (.int .i64 ((a+b+c+d:Nat):Int))∧Below w.heap.size w w':=by
 have i1:(a:Int)≤100000:=by omega
 have i2:(b:Int)≤100000:=by omega
 have i3:(c:Int)≤100000:=by omega
 have i4:(d:Int)≤100000:=by omega
 go_enter Tryz.func68,Tryz.ntmps68
 go_wp2_with fail
 go_ret
 exact ⟨by simp,(Below.refl _ _).alloc (Nat.le_refl _) _⟩
end Go.Proofs.YtdhhdplholkmdaaGreat
