/- A part of the proof. No condition. -/
import Derived.Test.YteoghgbnielkpaaGreatTB13

set_option maxRecDepth 100000
set_option maxHeartbeats 8000000
set_option linter.unusedVariables false
set_option linter.unusedSimpArgs false
namespace Go.Proofs.YteoghgbnielkpaaGreat
open Go.RowKit
open Tryz
open Go renaming World->vw, Value->vx
open Go.Act renaming put->vG
open Option renaming none->vD
theorem Xv (g1 g2 g3:Nat):Pd (Uq g1 g2 g3):=⟨fun w=>Z0 _ _ _ w,fun _ _ _ h k=>my h k⟩
theorem zD2 {g1 g2 g3:Nat} {w w':vw} (h:Uq g1 g2 g3 w.drew w'):∀ b o,b<w.1.size -> b≠g1 -> b≠g2 -> b≠g3 -> w'.cell? ⟨b,o,vD⟩=w.cell? ⟨b,o,vD⟩:=fun b _ hb h1 h2 h3=>aC (h.2 b hb h1 h2 h3)
theorem mO {a b:Prop} (h:a) (s:Imp a b:=by
 (repeat ((first | (apply Imp.via (xE (Xv _ _ _) rfl rfl (fun _ _ _ h=>h))) | (apply Imp.via (uE (v:=?_) (Xv _ _ _) rfl rfl (fun _ _ _ h=>h) ?hr);case hr=>(intro w' hR;(first | have qn:=zD2 ((Xv _ _ _).trans _ _ _ ea hR) | skip);go_simp;try with_reducible rfl)));simp only [vG,zLa,zLb,zLc]))
 exact Imp.rfl'):b:=s h
structure SetIn (w:vw) (L:Na) (p pu:Nat) (vars:Int) (rows:List Ua) (ws:List Nat) (Gg:Nat) (vm c0 c1 c2 c3 c4:vx) (M:List (List Nat)):Prop where
 ok:Nb L
 p:L.p=p
 tf:Gu L pu vars rows
 vo:Wx vars rows
 len:1+pu <= ws.length
 ws:∀ x∈ws,x<L.p
 ml:M.length=L.a+L.b+L.b+L.b
 mr:∀ x∈M,x.length=L.block
 mlt:∀ x∈M,∀ y∈x,y<L.p
 m:Xg w [vm] M
 r:Xg w [c0] (rowsP L Gg (L.a+L.b+L.b+L.b))
 co:RWd w [c1] (re L.p Gg [1] L.k)
 li:RWd w [c2] (re L.p Gg [2] (L.k+L.block-2))
 qu:RWd w [c3] (re L.p Gg [3] (L.block+2*L.queries-1))
 sa:RWd w [c4] (re Bb Gg [4] L.n)
theorem UW (x b:Nat) (hb:0<b):(x:Int)%(b:Int)=((x%b:Nat):Int) /\ (x:Int).tmod (b:Int)=((x%b:Nat):Int) /\ (x:Int) / (b:Int)=((x / b:Nat):Int) /\ (x:Int).tdiv (b:Int)=((x / b:Nat):Int) /\ ((b:Int) == 0)=false /\ ¬((b:Int)=0) /\ ¬(b=0) :=
 ⟨rfl,rfl,rfl,by rw [sK zO];rfl,by rw [Gd];omega,zO,zO⟩
end Go.Proofs.YteoghgbnielkpaaGreat
