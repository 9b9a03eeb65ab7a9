/- A part of the proof. No condition. -/
import Derived.Test.YtjipleoamlmkfaaGreatProg
import Derived.Test.YtjipleoamlmkfaaGreatPF37

set_option maxRecDepth 100000
set_option maxHeartbeats 8000000
set_option linter.unusedVariables false
set_option linter.unusedSimpArgs false
namespace Go.Proofs.YtjipleoamlmkfaaGreat
open Go.RowKit
structure jG (O:La) (k:Nat):Prop where
 fair:N5 O
 ans:rm O
 le:Qc O k
 st:O.st<18446744073709551616
theorem zB5 {O:La} (h:O.st<18446744073709551616) (lab:Nat) (el:List Nat):(jc O lab el).st<18446744073709551616:=by
 unfold jc;split
 ·split
  ·exact h
  ·split
   ·exact Nat.mod_lt _ (by decide)
   ·exact h
 ·exact h
theorem zC9 {O:La} {k:Nat} (h:jG O k) (lab:Nat) (el:List Nat):jG (jc O lab el) (k+1):=⟨zBP h.fair lab el,GD h.ans lab el,Wl h.le lab el,zB5 h.st lab el⟩
structure W5 (s:Tr) (k c:Nat):Prop where
 o:jG s.O k
 st:s.st<18446744073709551616
 ct:s.ct <= c
theorem zDA {s:Tr} {k c:Nat} (h:W5 s k c) (tag:Nat) (l:List Nat):W5 (Zg s tag l) (k+1) 0:=⟨zC9 h.o _ _,Ti (Bt h.o.ans _ _),zR⟩
end Go.Proofs.YtjipleoamlmkfaaGreat
