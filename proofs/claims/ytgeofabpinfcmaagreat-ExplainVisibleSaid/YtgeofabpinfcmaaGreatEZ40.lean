/- A part of the proof. No condition. -/
import Derived.Test.YtgeofabpinfcmaaGreatProg
import Derived.Test.YtgeofabpinfcmaaGreatEZ33
import Derived.Test.YtgeofabpinfcmaaGreatEZ32

set_option maxRecDepth 100000
set_option maxHeartbeats 8000000
set_option linter.unusedVariables false
set_option linter.unusedSimpArgs false
namespace Go.Proofs.YtgeofabpinfcmaaGreat
open Go.RowKit
theorem Fy (g1 g2 g3:Nat):Oe (Wn g1 g2 g3):=⟨fun w=>kP _ _ _ w,fun _ _ _ h k=>Ks h k⟩
theorem WV {g1 g2 g3:Nat} {w w':World} (h:Wn g1 g2 g3 w.drew w'):∀ b o,b<w.heap.size -> b≠g1 -> b≠g2 -> b≠g3 -> w'.cell? ⟨b,o,none⟩=w.cell? ⟨b,o,none⟩:=fun b _ hb h1 h2 h3=>WG (h.2 b hb h1 h2 h3)
theorem ON {a b:Prop} (h:a) (s:Imp a b:=by
 (repeat ((first | (apply Imp.via (mD (Fy _ _ _) rfl rfl (fun _ _ _ h=>h))) | (apply Imp.via (lD (v:=?_) (Fy _ _ _) rfl rfl (fun _ _ _ h=>h) ?hr);case hr=>(intro w' hR;(first | have Bn:=WV ((Fy _ _ _).trans _ _ _ ja hR) | skip);go_simp;try with_reducible rfl)));simp only [Act.put,zLa,zLb,zLc]))
 exact Imp.rfl'):b:=s h
structure SetIn (w:World) (L:Ja) (p pu:Nat) (vars:Int) (rows:List Cb) (ws:List Nat) (seed:Nat) (vm c0 c1 c2 c3 c4:Value) (M:List (List Nat)):Prop where
 ok:Db L
 p:L.p=p
 tf:xl L pu vars rows
 vo:mn vars rows
 len:1+pu <= ws.length
 ws:∀ x∈ws,x<L.p
 ml:M.length=L.a+L.b+L.b+L.b
 mr:∀ x∈M,x.length=L.block
 mlt:∀ x∈M,∀ y∈x,y<L.p
 m:Sb w [vm] M
 r:Sb w [c0] (Dk L seed (L.a+L.b+L.b+L.b))
 co:RWd w [c1] (Gd L.p seed [1] L.k)
 li:RWd w [c2] (Gd L.p seed [2] (L.k+L.block-2))
 qu:RWd w [c3] (Gd L.p seed [3] (L.block+2*L.queries-1))
 sa:RWd w [c4] (Gd Kd seed [4] L.n)
end Go.Proofs.YtgeofabpinfcmaaGreat
