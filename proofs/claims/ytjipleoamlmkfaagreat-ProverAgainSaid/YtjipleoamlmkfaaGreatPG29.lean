/- A part of the proof. No condition. -/
import Derived.Test.YtjipleoamlmkfaaGreatProg
import Derived.Test.YtjipleoamlmkfaaGreatPG28

set_option maxRecDepth 100000
set_option maxHeartbeats 8000000
set_option linter.unusedVariables false
set_option linter.unusedSimpArgs false
namespace Go.Proofs.YtjipleoamlmkfaaGreat
open Go.RowKit
theorem RN:(Tryz.prog.info? 168).map (fun i=>(i.zero,i.size,i.bytes))=some (some (.slice none 0 0),1,24):=by kernel_rfl
theorem gL {w:World}:((isAgg 168).run Tryz.prog w)= .ok false w:=by simp [isAgg,run_underlying Tryz.underlying168]
theorem LS {w:World}:((sizeOf 168).run Tryz.prog w)= .ok 1 w:=by
 obtain ⟨i0,hi,Ff,Zb,td⟩:=info_parts RN;simp [sizeOf,typeInfo,hi,Zb]
theorem mE {w:World} {x y z:Value} {k:Nat} (h:k<3):(Instr.index 171 (.agg #[x,y,z]) (.int .i64 k)).run Tryz.prog w= .ok (if k=0 then x else if k=1 then y else z) w :=
 Iz (i:=k) Tryz.underlying171 gL LS h (by
  rcases (show k=0 \/ k=1 \/ k=2 by omega) with rfl | rfl | rfl <;> rfl)
theorem BG {V0:Value} {xs:Nat -> Value} {k:Nat} (h:k<3):(#[V0,xs 0,xs 1,xs 2]:Array Value)[k+1]?=some (xs k):=by
 rcases (show k=0 \/ k=1 \/ k=2 by omega) with rfl | rfl | rfl <;> rfl
def Wk (xs:Nat -> Value) (k:Nat) (v:Value) (j:Nat):Value:=if j=k then v else xs j
theorem wL {V0 v:Value} {xs:Nat -> Value} {k:Nat} (h:k<3):(#[V0,xs 0,xs 1,xs 2]:Array Value).setIfInBounds (k+1) v=#[V0,Wk xs k v 0,Wk xs k v 1,Wk xs k v 2]:=by
 rcases (show k=0 \/ k=1 \/ k=2 by omega) with rfl | rfl | rfl <;> rfl
theorem NG {g N b:Nat} {w w':World} {t:TypeId} {cs:Array Value} (k:Blk w b t cs) (h:mi g N w w') (hb:b<N) (Ka:b≠g):Blk w' b t cs:=by
 unfold Blk at *;rw [h.2.2.2.2 b hb Ka];exact k
def Dd (r:Ya) (k:Nat):List (Int × Nat):=if k=0 then r.a else if k=1 then r.b else r.c
def Kh (p:Nat) (rows:List Ya) (ws:List Nat) (k:Nat):List Nat:=rows.map fun r=>ud p (Dd r k) ws
def Ew (L:Va) (rows:List Ya) (ws:List Nat) (pu:Nat):List (List Nat):=Io L.block (xe (ws.drop (1+pu)) (Kh L.p rows ws 0) (Kh L.p rows ws 1) (Kh L.p rows ws 2)) (xe L.a L.b L.b L.b)
theorem wO {p:Nat} (hp:0<p) (ws:List Nat) {s:Nat} (hs:s<p) (t:Int × Nat):Hn p ws s t<p:=by
 unfold Hn;split
 ·exact Nat.mod_lt _ hp
 ·exact hs
theorem xO {p:Nat} (hp:0<p) (l:List (Int × Nat)) (ws:List Nat):ud p l ws<p:=by
 have key:∀ (l:List (Int × Nat)) (s:Nat),s<p -> l.foldl (Hn p ws) s<p:=fun l=>by
  induction l with
  | nil=>exact fun s hs=>hs
  | cons t l ih=>exact fun s hs=>ih _ (wO hp ws hs t)
 exact key l 0 hp
end Go.Proofs.YtjipleoamlmkfaaGreat
