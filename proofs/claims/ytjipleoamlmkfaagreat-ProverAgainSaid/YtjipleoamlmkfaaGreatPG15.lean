/- A part of the proof. No condition. -/
import Derived.Test.YtjipleoamlmkfaaGreatProg
import Derived.Test.YtjipleoamlmkfaaGreatPG14
import Derived.Test.YtjipleoamlmkfaaGreatPG12

set_option maxRecDepth 100000
set_option maxHeartbeats 8000000
set_option linter.unusedVariables false
set_option linter.unusedSimpArgs false
namespace Go.Proofs.YtjipleoamlmkfaaGreat
open Go.RowKit
theorem DS {g:Nat} (w:World) (x0 x1 x2 x3 x4 x5 x6 x7 x8 x9 Yk:Value) :
  tg g w (((((((((((w.setCell ⟨g,0,none⟩ x0).setCell ⟨g,1,none⟩ x1).setCell ⟨g,2,none⟩ x2).setCell ⟨g,3,none⟩ x3).setCell ⟨g,4,none⟩ x4).setCell ⟨g,5,none⟩ x5).setCell ⟨g,6,none⟩ x6).setCell ⟨g,7,none⟩ x7).setCell ⟨g,8,none⟩ x8).setCell ⟨g,9,none⟩ x9).setCell ⟨g,10,none⟩ Yk):=by
 unfold tg
 iterate 11 refine Yd ?_ (.inl rfl) _
 exact Lc w _
theorem UJ (y0 y1 y2 y3 y4 y5 y6:Int) (a b c d:Nat) (w:World) (ha:a <= 100000) (hb:b <= 100000) (hc:c <= 100000) (hd:d <= 100000) :
  Calls Tryz.prog 25 #[.agg #[.int .u64 y0, .int .i64 y1, .int .i64 y2, .int .i64 y3, .int .i64 y4, .int .i64 y5, .int .i64 y6, .int .i64 a, .int .i64 b, .int .i64 c, .int .i64 d]] w fun e w'=>e= .returned (.int .i64 ((a+b+c+d:Nat):Int)) /\ Below w.heap.size w w':=by
 have i1:(a:Int) <= 100000:=by omega
 have i2:(b:Int) <= 100000:=by omega
 have i3:(c:Int) <= 100000:=by omega
 have i4:(d:Int) <= 100000:=by omega
 go_enter Tryz.func25,Tryz.ntmps25
 go_wp2_with fail
 go_ret
 exact ⟨by simp,(Below.refl _ _).alloc zR _⟩
theorem Bz (y0 y1 y2 y3 y4 y5 y6:Int) (a b c d:Nat) (w:World) (ha:a <= 100000) (hb:b <= 100000) (hc:c <= 100000) (hd:d <= 100000) :
  Calls Tryz.prog 60 #[.agg #[.int .u64 y0, .int .i64 y1, .int .i64 y2, .int .i64 y3, .int .i64 y4, .int .i64 y5, .int .i64 y6, .int .i64 a, .int .i64 b, .int .i64 c, .int .i64 d]] w fun e w'=>e= .returned (.int .i64 ((a+b+c+d:Nat):Int)) /\ Below w.heap.size w w':=by
 have i1:(a:Int) <= 100000:=by omega
 have i2:(b:Int) <= 100000:=by omega
 have i3:(c:Int) <= 100000:=by omega
 have i4:(d:Int) <= 100000:=by omega
 go_enter Tryz.func60,Tryz.ntmps60
 go_wp2_with fail
 go_ret
 exact ⟨by simp,(Below.refl _ _).alloc zR _⟩
end Go.Proofs.YtjipleoamlmkfaaGreat
