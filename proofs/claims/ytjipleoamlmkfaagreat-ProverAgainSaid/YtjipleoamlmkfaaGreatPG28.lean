/- A part of the proof. No condition. -/
import Derived.Deep.AppendLies
import Derived.Laws.OwnMore
import Derived.Test.YtjipleoamlmkfaaGreatProg
import Derived.Test.YtjipleoamlmkfaaGreatPG17
import Derived.Test.YtjipleoamlmkfaaGreatPG24

set_option maxRecDepth 100000
set_option maxHeartbeats 8000000
set_option linter.unusedVariables false
set_option linter.unusedSimpArgs false
namespace Go.Proofs.YtjipleoamlmkfaaGreat
open Go.RowKit
def xe {α:Type} (a b c d:α) (i:Nat):α:=if i=0 then a else if i=1 then b else if i=2 then c else d
theorem lK {α:Type} (a b c d:α) {i:Nat} (h:i<4):(#[a,b,c,d]:Array α)[i]?=some (xe a b c d i):=by
 rcases (show i=0 \/ i=1 \/ i=2 \/ i=3 by omega) with rfl | rfl | rfl | rfl <;> rfl
def wv (B:Nat) (v:List Nat) (k:Nat):List Nat:=(List.range B).map fun j=>v.getD (k*B+j) 0
def Dl (B:Nat) (v:List Nat) (n:Nat):List (List Nat):=(List.range n).map (wv B v)
def Ek (B:Nat) (l:Nat -> List Nat) (ps:Nat -> Nat) (i:Nat):List (List Nat):=(List.range i).flatMap fun i=>Dl B (l i) (ps i)
def Io (B:Nat) (l:Nat -> List Nat) (ps:Nat -> Nat):List (List Nat):=Ek B l ps 4
theorem XG (B:Nat) (l:Nat -> List Nat) (ps:Nat -> Nat) (i:Nat):Ek B l ps (i+1)=Ek B l ps i++Dl B (l i) (ps i):=by
 rw [Ek,List.range_succ,List.flatMap_append];simp [Ek]
theorem eM (B:Nat) (v:List Nat) (k:Nat):Dl B v (k+1)=Dl B v k++[wv B v k]:=by simp [Dl,List.range_succ]
theorem tN {M N:Nat} {w:World} {v:Value} {cs:List Value} {l:List (List Nat)} (h:Ag N w v cs l) (hN:M <= N):Ag M w v cs l :=
 ⟨h.1,fun i h1 h2 u hu=>h.2 i h1 h2 u fun b b1 b2 b3=>hu b (by omega) b2 b3⟩
end Go.Proofs.YtjipleoamlmkfaaGreat
