/- A part of the proof. No condition. -/
import Derived.Test.YtjipleoamlmkfaaGreatProg
import Derived.Test.YtjipleoamlmkfaaGreatPG29
import Derived.Test.YtjipleoamlmkfaaGreatPG25
import Derived.Test.YtjipleoamlmkfaaGreatPG26
import Derived.Carry
import Derived.Deep.AppendLies
import Derived.Laws.OwnMore
import Derived.Maps.OwnSet
import Derived.Maps.Views
import Derived.Test.YtjipleoamlmkfaaGreatPG16

set_option maxRecDepth 100000
set_option maxHeartbeats 8000000
set_option linter.unusedVariables false
set_option linter.unusedSimpArgs false
namespace Go.Proofs.YtjipleoamlmkfaaGreat
open Go.RowKit
theorem dM (B:Nat) (v:List Nat) (n:Nat):(Dl B v n).length=n:=by simp [Dl]
theorem jt (B:Nat) (l:Nat -> List Nat) (ps:Nat -> Nat):∀ i,(Ek B l ps (i+1)).length=(Ek B l ps i).length+ps i:=fun i=>by rw [XG,List.length_append,dM]
theorem XI (L:Va) (rows:List Ya) (ws:List Nat) (pu:Nat):(Ew L rows ws pu).length=L.a+L.b+L.b+L.b:=by
 unfold Ew Io;rw [jt,jt,jt,jt];show 0+L.a+L.b+L.b+L.b=_
 omega
theorem WG {B:Nat} {l:Nat -> List Nat} {ps:Nat -> Nat} {r:List Nat} (h:r∈Io B l ps):∃ i k,i<4 /\ k<ps i /\ r=wv B (l i) k:=by
 unfold Io Ek at h;obtain ⟨i,hi,hr⟩:=List.mem_flatMap.1 h;obtain ⟨k,hk,rfl⟩:=List.mem_map.1 hr;exact ⟨i,k,List.mem_range.1 hi,List.mem_range.1 hk,rfl⟩
theorem ZO {L:Va} {rows:List Ya} {ws:List Nat} {pu:Nat} {r:List Nat} (h:r∈Ew L rows ws pu):r.length=L.block:=by
 obtain ⟨i,k,-,-,rfl⟩:=WG h;simp [wv]
theorem GH {l:List Nat} {p:Nat} (hp:0<p) (h:∀ x∈l,x<p) (i:Nat):l.getD i 0<p:=by
 rw [List.getD_eq_getElem?_getD];cases e:l[i]? with
 | none=>exact hp
 | some x=>exact h x (List.mem_of_getElem? e)
end Go.Proofs.YtjipleoamlmkfaaGreat
namespace Go.Proofs.YtjipleoamlmkfaaGreat
def Fw (ts:List (Int × Nat)):List Nat:=ts.flatMap fun t=>[t.1.toNat,t.2]
def Gp (ts:List (Int × Nat)):List Nat:=ts.length :: Fw ts
def Lx (r:Ya):List Nat:=Gp (Dd r 0)++Gp (Dd r 1)++Gp (Dd r 2)
def Fk (p:Nat) (pub vars:Int) (rows:List Ya):List Nat:=[p,pub.toNat,vars.toNat,rows.length]++rows.flatMap Lx
def pd (p:Nat) (pub vars:Int) (rows:List Ya):Nat:=if Gb p pub vars rows then ji 21 (Fk p pub vars rows) else 0
def Qw (p:Nat) (pub vars:Int) (rows:List Ya) (i:Nat):List Nat:=[p,pub.toNat,vars.toNat,rows.length]++(rows.take i).flatMap Lx
def Dz (base:List Nat) (r:Ya):Nat -> List Nat
 | 0=>base
 | j+1=>Dz base r j++Gp (Dd r j)
def Kp (base:List Nat) (ts:List (Int × Nat)) (t:Nat):List Nat:=base++ts.length :: Fw (ts.take t)
theorem VQ (p:Nat) (pub vars:Int) (rows:List Ya) {i:Nat} (h:i<rows.length):Qw p pub vars rows (i+1)=Dz (Qw p pub vars rows i) rows[i] 3:=by
 unfold Qw;rw [List.take_succ_eq_append_getElem h,List.flatMap_append];simp [Dz,Lx]
theorem WQ (base:List Nat) (ts:List (Int × Nat)):Kp base ts ts.length=base++Gp ts:=by simp [Kp,Gp]
theorem YQ (base:List Nat) (ts:List (Int × Nat)):Kp base ts 0=base++[ts.length]:=by simp [Kp,Fw]
theorem XQ (base:List Nat) (ts:List (Int × Nat)) {t:Nat} (h:t<ts.length):Kp base ts (t+1)=Kp base ts t++[(ts.getD t (0,0)).1.toNat,(ts.getD t (0,0)).2]:=by
 unfold Kp Fw;rw [List.take_succ_eq_append_getElem h,List.flatMap_append,List.getD_eq_getElem?_getD,List.getElem?_eq_getElem h];simp
theorem BI (ts:List (Int × Nat)):(Fw ts).length=2*ts.length:=by
 induction ts with
 | nil=>rfl
 | cons t ts ih =>
  show ([t.1.toNat,t.2]++Fw ts).length=_
  rw [List.length_append,ih];simp
  omega
theorem tO (base:List Nat) (ts:List (Int × Nat)) {t:Nat} (h:t <= ts.length):(Kp base ts t).length=base.length+1+2*t:=by
 unfold Kp;rw [List.length_append,List.length_cons,BI,List.length_take,Nat.min_eq_left h];omega
theorem UQ (p:Nat) (pub vars:Int) (rows:List Ya):Qw p pub vars rows rows.length=Fk p pub vars rows:=by simp [Qw,Fk]
end Go.Proofs.YtjipleoamlmkfaaGreat
namespace Go.Proofs.YtjipleoamlmkfaaGreat
open Go.RowKit
theorem tJ {w w':World} {base:Nat} {e:TypeId} {size:Nat} {v:Value} {n:Nat} {xs:List Value} {u:Option Nat} (h:w.ownsRow base e size v n xs) (hg:w.grownBy w' u) (Ka:∀ q,v.ownBlock=some q -> u=some q -> False):w'.ownsRow base e size v n xs:=by
 have oa:=h.lt;obtain ⟨h1,h2⟩:=h;refine ⟨h1,?_⟩;rcases h2 with h2 | ⟨g,cap,cur,hv,Kg,hh,r⟩
 ·exact Or.inl h2
 ·exact Or.inr ⟨g,cap,cur,hv,Kg,by rw [hg.block g (Array.getElem?_eq_some_iff.1 hh).1 (fun e=>Ka g (by rw [hv];rfl) e.symm)];exact hh,r⟩
theorem vA {w:World} {base:Nat} {e:TypeId} {size:Nat} {x x' y:Value} {n:Nat} {ys:List Value} (hy:w.ownsRow base e size y n ys) (Oq:∀ q,x.ownBlock=some q -> y.ownBlock=some q -> False) (hb:x'.ownBlock=x.ownBlock \/ x'.ownBlock=some w.heap.size):∀ q,x'.ownBlock=some q -> y.ownBlock=some q -> False:=fun q h1 h2=>by
 rcases hb with e | e
 ·exact Oq q (e ▸ h1) h2
 ·have:=(hy.lt q h2).2
  rw [e] at h1;have:=Option.some.inj h1;omega
end Go.Proofs.YtjipleoamlmkfaaGreat
