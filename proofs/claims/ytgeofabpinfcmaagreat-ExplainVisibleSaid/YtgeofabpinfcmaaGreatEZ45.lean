/- A part of the proof. No condition. -/
import Derived.Test.YtgeofabpinfcmaaGreatProg
import Derived.Test.YtgeofabpinfcmaaGreatEZ44

set_option maxRecDepth 100000
set_option maxHeartbeats 8000000
set_option linter.unusedVariables false
set_option linter.unusedSimpArgs false
namespace Go.Proofs.YtgeofabpinfcmaaGreat
open Go.RowKit
def sG (R:List (List Nat)) (C X Q S:List Nat) (e:Ending) (w:World):Prop:=∃ (A0 A1 A2 A3 A4:Option Addr) (n0 n1 n2 n3 n4 c0 c1 c2 c3 c4:Nat),e= .returned (.tuple #[.agg #[.slice A0 n0 c0, .slice A1 n1 c1, .slice A2 n2 c2, .slice A3 n3 c3, .slice A4 n4 c4], .int .i64 0]) /\ Sb w [.slice A0 n0 c0] R /\ RWd w [.slice A1 n1 c1] C /\ RWd w [.slice A2 n2 c2] X /\ RWd w [.slice A3 n3 c3] Q /\ RWd w [.slice A4 n4 c4] S
theorem bW {R:List (List Nat)} {C X Q S:List Nat} {B:Nat} {e:Ending} {w:World} (h:tG R C X Q S B 0 e w):sG R C X Q S e w:=by
 obtain ⟨A0,A1,A2,A3,A4,n0,n1,n2,n3,n4,c0,c1,c2,c3,c4,rfl,h | ⟨-,x0,x1,x2,x3,x4⟩⟩:=h
 ·exact absurd rfl h.1
 ·exact ⟨_,_,_,_,_,_,_,_,_,_,_,_,_,_,_,rfl,x0.here,ff x1,ff x2,ff x3,ff x4⟩
section
variable {L:Ja} {pu:Nat} {vars:Int} {rows:List Cb} {ws vs:List Nat} {pos:List Int} {r:List (List Nat)} {co li qu sa:List Nat} {al rho be:Nat}
theorem SD (h:ExOk L pu vars rows ws vs pos) {bl bw qs:Int} (gg:tl L ⟨L.p,(pu:Int),vars,rows.length,bl,bw,qs⟩) (he:ti L pu vars rows ws vs pos al rho be=0) (Xb:Ze L r co li qu sa=true) (df:vs.length <= 200) (seed:Nat) (A B B2 P D0 D1 D2 D3 D4:Option Addr) (R c m d m2 d2 np cp n0 n1 n2 n3 n4 k0 k1 k2 k3 k4:Nat) (w:World)
  (hr:RSl 3 te w [.slice A R c] rows) (hw:RWd w [.slice B m d] ws) (hv:RWd w [.slice B2 m2 d2] vs) (hpos:qi w [.slice P np cp] pos)
  (h0:Sb w [.slice D0 n0 k0] r) (h1:RWd w [.slice D1 n1 k1] co) (h2:RWd w [.slice D2 n2 k2] li) (h3:RWd w [.slice D3 n3 k3] qu) (h4:RWd w [.slice D4 n4 k4] sa) :
  Calls Tryz.prog 12 #[.agg (Lk L.p (pu:Int) vars (.slice A R c) bl bw qs (.slice B m d) (.slice B2 m2 d2) seed al rho be (.slice P np cp)), .agg #[.slice D0 n0 k0, .slice D1 n1 k1, .slice D2 n2 k2, .slice D3 n3 k3, .slice D4 n4 k4]] w fun e w'=>sG (zd L (Ia L rows ws pu) r (Ia L rows vs pu) co li qu pos) (Zf L (Ia L rows ws pu) r (Ia L rows vs pu) co li qu pos al) (Tf L (Tc L pu rho rows) (Ia L rows ws pu) r (Ia L rows vs pu) co li qu pos) (Uf L (Ia L rows ws pu) r (Ia L rows vs pu) co li qu pos be) sa e w' /\ Below w.heap.size w w':=by
 have RB:=h.len;have e1:=(Ra hw).1;have e2:=(Ra hv).1;have:=pP L pu rho al be seed vars bl bw qs A B B2 P D0 D1 D2 D3 D4 R c m d m2 d2 np cp n0 n1 n2 n3 n4 k0 k1 k2 k3 k4 rows ws vs r co li qu sa pos w h.hL gg h.ht hr hw hv hpos h0 h1 h2 h3 h4 Xb (by omega) (by omega) (ER h hpos)
 rw [he] at this;exact this.mono fun e w' hh=>⟨bW hh.1,hh.2⟩
end
end Go.Proofs.YtgeofabpinfcmaaGreat
