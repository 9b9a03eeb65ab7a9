/- A part of the proof. No condition. -/
import Derived.Test.YtakjnmojigechaaGreatProg
import Derived.Test.YtakjnmojigechaaGreatJB23
import Derived.Test.YtakjnmojigechaaGreatJB24
import Derived.Test.YtakjnmojigechaaGreatJB33

namespace Go.Proofs.YtakjnmojigechaaGreat
open Go.RowKit
def xG (w:World) (b1 b2:Option Nat) (cs:List Value) (f:Nat→Nat):Prop:=∀ k (h:k<cs.length),∃ g,cs[k]= .slice (some ⟨g,0,none⟩) 1 1∧Blk w g 22 #[.int .u64 (f k:Int)]∧some g≠b1∧some g≠b2
theorem xX (w:World) (b1 b2:Option Nat) (f:Nat→Nat):xG w b1 b2 [] f:=fun k h=>by simp at h
theorem Xj {w w':World} {b1 b2:Option Nat} {cs:List Value} {f:Nat→Nat} (h:xG w b1 b2 cs f) (hb:Below w.heap.size w w'):xG w' b1 b2 cs f:=fun k hk=>by
 obtain ⟨g,h1,h2,h3⟩:=h k hk
 exact ⟨g,h1,h2.below hb h2.lt,h3⟩
theorem Jh {w w':World} {b1 b2 c1 c2 row:Option Nat} {cs:List Value} {f:Nat→Nat} (h:xG w b1 b2 cs f) (hg:w.grownBy w' row) (hr:row=b1∨row=b2) (h1:c1=b1∨c1=some w.heap.size) (h2:c2=b2∨c2=some w.heap.size):xG w' c1 c2 cs f:=fun k hk=>by
 obtain ⟨g,e,hB,n1,n2⟩:=h k hk
 have hl:=hB.lt
 refine ⟨g,e,hB.grown hg ?_,?_,?_⟩
 ·rcases hr with r | r
  ·rw [r];exact n1
  ·rw [r];exact n2
 ·rcases h1 with r | r
  ·rw [r];exact n1
  ·rw [r];intro e;have:=Option.some.inj e;omega
 ·rcases h2 with r | r
  ·rw [r];exact n2
  ·rw [r];intro e;have:=Option.some.inj e;omega
theorem xJ {w:World} {b1 b2:Option Nat} {cs:List Value} {f:Nat→Nat} {g k:Nat} (h:xG w b1 b2 cs f) (hk:cs.length=k) (hB:Blk w g 22 #[.int .u64 (f k:Int)]) (n1:some g≠b1) (n2:some g≠b2):xG w b1 b2 (cs++[.slice (some ⟨g,0,none⟩) 1 1]) f:=fun j hj=>by
 by_cases e:j<cs.length
 ·rw [List.getElem_append_left e]
  exact h j e
 ·have e2:j=cs.length:=by simp at hj;omega
  subst e2
  refine ⟨g,by simp,by rw [hk];exact hB,n1,n2⟩
theorem zp {w:World} {base n:Nat} {e:TypeId} {v:Value} {cs:List Value} {b1 b2:Option Nat} {f:Nat→Nat} (h:xG w b1 b2 cs f) (ho:w.ownsRow base e 1 v n cs) (hf:∀ k,k<n→f k<18446744073709551616):YN w [v] (Ys f n):=by
 obtain ⟨A,c,rfl,h1,h2,hr,-⟩:=Zo ho
 have hn:cs.length=n:=by have:=ho.1;omega
 refine ⟨A,n,c,rfl,by simp [Ys],h1,h2,fun i hi=>?_⟩
 have hi3:i<n:=by simpa [Ys] using hi
 have hi2:i<cs.length:=by omega
 obtain ⟨b,q,hA,hb,hc⟩:=G2 hr (by omega)
 obtain ⟨g,e1,hB,-⟩:=h i hi2
 refine ⟨_,[cs[i]],hA,rfl,fun j hj=>?_,?_⟩
 ·obtain rfl:j=0:=by omega
  rw [Y2,show q+(i*1+0)=q+i by omega,hc i (by omega),List.getElem?_eq_getElem hi2]
  rfl
 ·rw [e1]
  have e2:(Ys f n)[i]=[f i]:=by simp [Ys]
  rw [e2]
  exact KT (l:=[f i]) hB rfl (by intro x hx;simp at hx;subst hx;exact hf i hi3) (by simp [maxLen])
theorem zAo {w:World} {g:Nat} {t:TypeId} {v:Value} (k:Blk w g t #[v]):Rd w 1 (some ⟨g,0,none⟩) 1 [v]:=by
 refine ⟨rfl,fun _=>⟨_,rfl,fun j u hj=>?_⟩⟩
 match j,hj with
 | 0,hj =>
  simp at hj
  subst hj
  rw [Y2,k.cell]
  rfl
theorem xA {v:Value} {A:Option Addr} {n c:Nat} (h:v= .slice A n c):∀ u∈[v],u.oneCell'=true:=by intro u hu;simp at hu;subst hu;subst h;rfl
end Go.Proofs.YtakjnmojigechaaGreat
