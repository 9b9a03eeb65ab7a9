/- A part of the proof. No condition. -/
import Derived.Test.YtdhhdplholkmdaaGreatProg
import Derived.Test.YtdhhdplholkmdaaGreatPE30

namespace Go.Proofs.YtdhhdplholkmdaaGreat
open Go.RowKit
structure Xa where
 root:Nat
 code:List Nat
 linear:List Nat
 quad:List Nat
 cols:List (List Nat)
 salts:List Nat
 paths:List (List Nat)
structure PS where
 A1:Option Addr
 n1:Nat
 c1:Nat
 A2:Option Addr
 n2:Nat
 c2:Nat
 A3:Option Addr
 n3:Nat
 c3:Nat
 A4:Option Addr
 n4:Nat
 c4:Nat
 A5:Option Addr
 n5:Nat
 c5:Nat
 A6:Option Addr
 n6:Nat
 c6:Nat
def XH (P:Xa) (S:PS):Array Value:=#[.int .u64 (P.root:Int), .slice S.A1 S.n1 S.c1, .slice S.A2 S.n2 S.c2, .slice S.A3 S.n3 S.c3, .slice S.A4 S.n4 S.c4, .slice S.A5 S.n5 S.c5, .slice S.A6 S.n6 S.c6]
structure Us (w:World) (P:Xa) (S:PS):Prop where
 root:P.root<18446744073709551616
 code:RWd w [.slice S.A1 S.n1 S.c1] P.code
 linear:RWd w [.slice S.A2 S.n2 S.c2] P.linear
 quad:RWd w [.slice S.A3 S.n3 S.c3] P.quad
 cols:RSl 1 RWd w [.slice S.A4 S.n4 S.c4] P.cols
 salts:RWd w [.slice S.A5 S.n5 S.c5] P.salts
 paths:RSl 1 RWd w [.slice S.A6 S.n6 S.c6] P.paths
theorem ZB {w w':World} {P:Xa} {S:PS} (h:Us w P S) (hb:Below w.heap.size w w'):Us w' P S :=
 ⟨h.root,Zd _ _ _ _ hb h.code,Zd _ _ _ _ hb h.linear,Zd _ _ _ _ hb h.quad,Zn Zd _ _ _ _ hb h.cols,Zd _ _ _ _ hb h.salts,Zn Zd _ _ _ _ hb h.paths⟩
theorem Zo {w:World} {A:Option Addr} {n c:Nat} {ls:List (List Nat)} (h:RSl 1 RWd w [.slice A n c] ls):n=ls.length∧n≤c∧c≤maxLen∧RdL w 1 RWd A ls:=by
 obtain ⟨A',n',c',he,hlen,hnc,hmx,hrd⟩:=h
 simp at he
 obtain ⟨rfl,rfl,rfl⟩:=he
 exact ⟨hlen.symm,hnc,hmx,hrd⟩
theorem Yl {w:World} {A:Option Addr} {ls:List (List Nat)} (h:RdL w 1 RWd A ls) {j:Nat} (hj:j<ls.length):∃ b q A1 n1 c1,A=some ⟨b,q,none⟩∧b<w.heap.size∧w.cell? ⟨b,q+j,none⟩=some (.slice A1 n1 c1)∧RWd w [.slice A1 n1 c1] ls[j]:=by
 obtain ⟨b,q,rfl⟩:=h.base (by omega) (by omega)
 obtain ⟨cs,hl1,hc,hr⟩:=h.get hj
 have hr':=hr
 obtain ⟨A1,n1,c1,rfl,-⟩:=hr
 have c0:=hc 0 (by omega)
 simp at c0
 exact ⟨b,q,A1,n1,c1,rfl,World.block_lt_of_cell? _ _ c0,c0,hr'⟩
structure PartR where
 ptr:Addr
 size:Nat
 lim:Nat
end Go.Proofs.YtdhhdplholkmdaaGreat
