/- A part of the proof. No condition. -/
import Derived.Test.YtgeofabpinfcmaaGreatProg
import Derived.Test.YtgeofabpinfcmaaGreatEZ41

set_option maxRecDepth 100000
set_option maxHeartbeats 8000000
set_option linter.unusedVariables false
set_option linter.unusedSimpArgs false
namespace Go.Proofs.YtgeofabpinfcmaaGreat
open Go.RowKit
def ME (N1 N2 N3:List Nat) (N4:List (List Nat)) (e:Ending) (w:World):Prop:=∃ (A0 A1 A2 A3:Option Addr) (n0 n1 n2 n3 c0 c1 c2 c3:Nat),e= .returned (.agg #[.slice A0 n0 c0, .slice A1 n1 c1, .slice A2 n2 c2, .slice A3 n3 c3]) /\ RWd w [.slice A0 n0 c0] N1 /\ RWd w [.slice A1 n1 c1] N2 /\ RWd w [.slice A2 n2 c2] N3 /\ Sb w [.slice A3 n3 c3] N4
theorem T4 {w w':World} {e:Ending} {N1 N2 N3:List Nat} {N4:List (List Nat)} (h:∃ v0 v1 v2 v3,e= .returned (.agg #[v0,v1,v2,v3]) /\ Jc w.heap.size none w' v0 N1 /\ Jc w.heap.size none w' v1 N2 /\ Jc w.heap.size none w' v2 N3 /\ RRx w.heap.size w' v3 N4 /\ Below w.heap.size w w'):ME N1 N2 N3 N4 e w' /\ Below w.heap.size w w':=by
 obtain ⟨v0,v1,v2,v3,rfl,x0,x1,x2,x3,hb⟩:=h;obtain ⟨A3,n3,c3,rfl⟩:=RSl.slc x3.here;obtain ⟨A0,n0,c0,rfl⟩:=Rm x0;obtain ⟨A1,n1,c1,rfl⟩:=Rm x1;obtain ⟨A2,n2,c2,rfl⟩:=Rm x2;exact ⟨⟨_,_,_,_,_,_,_,_,_,_,_,_,rfl,ff x0,ff x1,ff x2,x3.here⟩,hb⟩
theorem N5 {p:Nat} {pub vars:Int} {rows:List Cb} (h:dd p pub vars rows=true):rows.length <= 16384:=by
 simp only [dd,Bool.and_eq_true,Bool.not_eq_true',decide_eq_false_iff_not] at h;omega
section
variable {L:Ja} {pu:Nat} {vars:Int} {rows:List Cb} {ws vs:List Nat} {pos:List Int} {r:List (List Nat)} {co li qu sa:List Nat}
theorem RM (h:ExOk L pu vars rows ws vs pos) (rho al be:Nat) (Xb:Ze L r co li qu sa=true) (A B P D0 D1 D2 D3 D4:Option Addr) (R c m d np cp n0 n1 n2 n3 n4 k0 k1 k2 k3 k4:Nat) (w:World)
  (hr:RSl 3 te w [.slice A R c] rows) (hw:RWd w [.slice B m d] ws) (h0:Sb w [.slice D0 n0 k0] r) (h1:RWd w [.slice D1 n1 k1] co) (h2:RWd w [.slice D2 n2 k2] li) (h3:RWd w [.slice D3 n3 k3] qu) (hpos:qi w [.slice P np cp] pos) :
  Calls Tryz.prog 17 #[.agg (Ya L),pc L.p (pu:Int) vars (.slice A R c), .slice B m d, .agg #[.slice D0 n0 k0, .slice D1 n1 k1, .slice D2 n2 k2, .slice D3 n3 k3, .slice D4 n4 k4], .agg #[.int .u64 al, .int .u64 rho, .int .u64 be], .slice P np cp] w fun e w'=>ME (Pd L (Ia L rows ws pu) r co al) (Nc L (Tc L pu rho rows) (Ia L rows ws pu) r li) (pd L (Ia L rows ws pu) r qu be) (Ie L (Ia L rows ws pu) r co li qu pos) e w' /\ Below w.heap.size w w':=by
 obtain ⟨f1,f2,f3,f4,f5⟩:=Pq Xb;have hc:=h.case rho al be Xb;have hv:=h.vars;have hl:=(Nq h.aw hv).1;exact (xS L pu rho al be vars A B P D0 D1 D2 D3 D4 R c m d np cp n0 n1 n2 n3 n4 k0 k1 k2 k3 k4 rows ws r co li qu pos w h.hL h.tf hr (UI h.ht) (N5 h.ht) hw (by omega) h0 h1 h2 h3 hc.msg f3.1 f4.1 f5.1 hpos h.pos).mono fun e w' hh=>T4 hh
theorem dT (h:ExOk L pu vars rows ws vs pos) (rho al be:Nat) (Xb:Ze L r co li qu sa=true) (A B P D0 D1 D2 D3 D4:Option Addr) (R c m d np cp n0 n1 n2 n3 n4 k0 k1 k2 k3 k4:Nat) (w:World)
  (hr:RSl 3 te w [.slice A R c] rows) (hw:RWd w [.slice B m d] vs) (h0:Sb w [.slice D0 n0 k0] (zd L (Ia L rows ws pu) r (Ia L rows vs pu) co li qu pos)) (h1:RWd w [.slice D1 n1 k1] (Zf L (Ia L rows ws pu) r (Ia L rows vs pu) co li qu pos al)) (h2:RWd w [.slice D2 n2 k2] (Tf L (Tc L pu rho rows) (Ia L rows ws pu) r (Ia L rows vs pu) co li qu pos)) (h3:RWd w [.slice D3 n3 k3] (Uf L (Ia L rows ws pu) r (Ia L rows vs pu) co li qu pos be)) (hpos:qi w [.slice P np cp] pos) :
  Calls Tryz.prog 17 #[.agg (Ya L),pc L.p (pu:Int) vars (.slice A R c), .slice B m d, .agg #[.slice D0 n0 k0, .slice D1 n1 k1, .slice D2 n2 k2, .slice D3 n3 k3, .slice D4 n4 k4], .agg #[.int .u64 al, .int .u64 rho, .int .u64 be], .slice P np cp] w fun e w'=>ME (Pd L (Ia L rows ws pu) r co al) (Nc L (Tc L pu rho rows) (Ia L rows ws pu) r li) (pd L (Ia L rows ws pu) r qu be) (Ie L (Ia L rows ws pu) r co li qu pos) e w' /\ Below w.heap.size w w':=by
 have hc:=h.case rho al be Xb;have Ss:=h.ans rho al be Xb;have hcols:=hc.cols Ss;have:=RM h.swap rho al be hc.new A B P D0 D1 D2 D3 D4 R c m d np cp n0 n1 n2 n3 n4 k0 k1 k2 k3 k4 w hr hw h0 h1 h2 h3 hpos;rw [Ss.1,Ss.2.1,Ss.2.2,hcols] at this;exact this
end
end Go.Proofs.YtgeofabpinfcmaaGreat
