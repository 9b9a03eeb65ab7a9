/- A part of the proof. No condition. -/
import Derived.Test.YtgeofabpinfcmaaGreatProg
import Derived.Test.YtgeofabpinfcmaaGreatEZ44

set_option maxRecDepth 100000
set_option maxHeartbeats 8000000
set_option linter.unusedVariables false
set_option linter.unusedSimpArgs false
namespace Go.Proofs.YtgeofabpinfcmaaGreat
open Go.RowKit
section
variable {L:Ja} {pu:Nat} {vars:Int} {rows:List Cb} {ws vs:List Nat} {pos:List Int} {r:List (List Nat)} {co li qu sa:List Nat} {al rho be:Nat}
theorem aK (h:ti L pu vars rows ws vs pos al rho be=0):Fs L pos al rho be=true:=by
 unfold ti at h;split at h
 ·cases h
 ·rename_i h1
  simpa only [Bool.not_eq_false] using h1
end
theorem US (A0 A1 A2 A3 A4 B0 B1 B2 B3 B4:Option Addr) (n0 n1 n2 n3 n4 c0 c1 c2 c3 c4 m0 m1 m2 m3 m4 d0 d1 d2 d3 d4:Nat) (r:List (List Nat)) (x1 x2 x3 x4:List Nat) (w:World)
  (h0:Sb w [.slice A0 n0 c0] r) (h1:RWd w [.slice A1 n1 c1] x1) (h2:RWd w [.slice A2 n2 c2] x2) (h3:RWd w [.slice A3 n3 c3] x3) (h4:RWd w [.slice A4 n4 c4] x4)
  (k0:Sb w [.slice B0 m0 d0] r) (k1:RWd w [.slice B1 m1 d1] x1) (k2:RWd w [.slice B2 m2 d2] x2) (k3:RWd w [.slice B3 m3 d3] x3) (k4:RWd w [.slice B4 m4 d4] x4) :
  Calls Tryz.prog 18 #[.agg #[.slice A0 n0 c0, .slice A1 n1 c1, .slice A2 n2 c2, .slice A3 n3 c3, .slice A4 n4 c4], .agg #[.slice B0 m0 d0, .slice B1 m1 d1, .slice B2 m2 d2, .slice B3 m3 d3, .slice B4 m4 d4]] w fun e w'=>e= .returned (.bool true) /\ Below w.heap.size w w':=by
 have:=qI A0 A1 A2 A3 A4 B0 B1 B2 B3 B4 n0 c0 n1 c1 n2 c2 n3 c3 n4 c4 m0 d0 m1 d1 m2 d2 m3 d3 m4 d4 _ _ _ _ _ _ _ _ _ _ w h0 h1 h2 h3 h4 k0 k1 k2 k3 k4;simp only [decide_true,Bool.and_true] at this;exact this
end Go.Proofs.YtgeofabpinfcmaaGreat
