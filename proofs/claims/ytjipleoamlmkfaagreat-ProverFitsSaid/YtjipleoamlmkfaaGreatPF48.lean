/- A part of the proof. No condition. -/
import Derived.BigQuiet
import Derived.Deep.QuietTactic
import Derived.Test.YtjipleoamlmkfaaGreatProg
import Derived.Test.YtjipleoamlmkfaaGreatPF45
import Derived.Test.YtjipleoamlmkfaaGreatPF33
import Derived.Test.YtjipleoamlmkfaaGreatPF47

set_option maxRecDepth 100000
set_option maxHeartbeats 8000000
set_option linter.unusedVariables false
set_option linter.unusedSimpArgs false
namespace Go.Proofs.YtjipleoamlmkfaaGreat
open Go.RowKit Go.Maps
def Ur (L:Va) (j pu:Nat) (vars:Int) (rows:List Ya) (ws:List Nat) (coin:Nat):PvIn :=
 ⟨L,j,pu,pd L.p (pu:Int) vars rows,rows,ws,Ew L rows ws pu,Tn L coin (L.a+L.b+L.b+L.b),af L.p coin [1] L.k,af L.p coin [2] (L.k+L.block-2),af L.p coin [3] (L.block+2*L.queries-1),af Xa coin [4] L.n⟩
theorem CG {p:Nat} {vars:Int} {ws:List Nat} (h:De p vars ws=true):(ws.length:Int)=vars /\ ws.getD 0 0=1 /\ (ws.all fun y=>decide (y<p))=true:=by
 unfold De at h;simp only [Bool.and_eq_true,Bool.not_eq_true',bne_eq_false_iff_eq] at h;exact ⟨h.1.1.1,by have:=h.1.2;omega,h.2⟩
theorem qQ {w:World} {g:Nat} {O:La} {F K:Nat -> Prop} (h:OrcAt w g O F) (L:Va) (j pu coin:Nat) (vars:Int) (A B A0 A1 A2 A3 A4:Option Addr) (n c m d n0 c0 n1 c1 n2 c2 n3 c3 n4 c4:Nat) (rows:List Ya) (ws:List Nat) (bl bw qs:Int)
  (hL:Vc L) (hn:L.n=2^j) (fj:Lm L ⟨L.p,(pu:Int),vars,rows.length,bl,bw,qs⟩) (ht:L.a+3*L.b <= 40) (hT:kG L.p (pu:Int) vars rows ws true) (AR:World -> Prop) (hA:Hd K w AR) (hK:∀ b,K b -> b<w.heap.size /\ ¬F b)
  (hr:∀ u,AR u -> RSl 3 Md u [.slice A n c] rows) (hw:∀ u,AR u -> RWd u [.slice B m d] ws) (h0:∀ u,AR u -> Qd u [.slice A0 n0 c0] (Tn L coin (L.a+L.b+L.b+L.b))) (h1:∀ u,AR u -> RWd u [.slice A1 n1 c1] (af L.p coin [1] L.k)) (h2:∀ u,AR u -> RWd u [.slice A2 n2 c2] (af L.p coin [2] (L.k+L.block-2))) (h3:∀ u,AR u -> RWd u [.slice A3 n3 c3] (af L.p coin [3] (L.block+2*L.queries-1))) (h4:∀ u,AR u -> RWd u [.slice A4 n4 c4] (af Xa coin [4] L.n)) (hO:Qc O 1000) :
  Calls Tryz.prog 10 #[.pointer (some ⟨g,0,none⟩),Ib L.p (pu:Int) vars (.slice A n c), .agg #[.int .i64 bl, .int .i64 bw, .int .i64 qs], .slice B m d, .agg #[.slice A0 n0 c0, .slice A1 n1 c1, .slice A2 n2 c2, .slice A3 n3 c3, .slice A4 n4 c4]] w fun e w' =>
   ∃ (S:PS) (F':Nat -> Prop),e= .returned (.tuple #[.agg (Jc ((Ur L j pu vars rows ws coin).pr O) S), .int .i64 0]) /\ OrcAt w' g ((Ur L j pu vars rows ws coin).oF O) F' /\ Moved F F' w w' /\ Hd (fun b=>w.heap.size <= b /\ b<w'.heap.size /\ ¬F' b) w' (fun u=>Xg u ((Ur L j pu vars rows ws coin).pr O) S):=by
 obtain ⟨Cr,rj,xH⟩:=CG hT.asg;exact rQ h (Ur L j pu vars rows ws coin) vars A B A0 A1 A2 A3 A4 n c m d n0 c0 n1 c1 n2 c2 n3 c3 n4 c4 bl bw qs hL fj hn (XE hn hL.n2) hT.tab (YS hT.tab fj) (qT hT.tab) (YG hT.tab hT.small) rfl rfl AR hA hK hr hw h0 h1 h2 h3 h4 Cr rj xH hT.sat (UG L coin (by have:=nc hL.p;omega)) hO (by show L.a+L.b+L.b+L.b <= 1000;omega)
theorem oF_le (x:PvIn) (O:La) {k:Nat} (hn:x.L.n=2^x.dd) (h:Qc O k):Qc (x.oF O) (k+1+2*x.L.n+4+1+x.L.queries):=by
 have h1:Qc (x.t1 O).O (k+1):=Wl h 18 _;have h2:=x.o2_le O hn h1;have h3:Qc (x.t2 O).O (k+1+2*x.L.n+4):=PE h2 _ _ _;have h4:Qc (Zg (x.t2 O) 3 (x.all O)).O (k+1+2*x.L.n+4+1):=Wl h3 18 _;have h5:=Ox (lab:=19) (Rh (Zg (x.t2 O) 3 (x.all O)).st 0 x.L.queries) h4;rw [zI] at h5;exact h5
end Go.Proofs.YtjipleoamlmkfaaGreat
