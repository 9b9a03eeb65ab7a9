/- A part of the proof. No condition. -/
import Derived.Test.YtdhhdplholkmdaaGreatProg
import Derived.Test.YtdhhdplholkmdaaGreatPE32
import Derived.Test.YtdhhdplholkmdaaGreatPE35

namespace Go.Proofs.YtdhhdplholkmdaaGreat
open Go.RowKit
def RQn (w:World) (cs:List Value) (q:Qn):Prop:=∃ s,cs=[.int .u64 (q.lab:Int),s, .int .u64 (q.ans:Int)]∧RWd w [s] q.el∧q.lab<18446744073709551616∧q.ans<18446744073709551616
theorem JM:Vw RQn:=fun w w' cs q hb h=>by
 obtain ⟨s,h1,h2,h3⟩:=h
 exact ⟨s,h1,Zd _ _ _ _ hb h2,h3⟩
def RQs:World→List Value→List Qn→Prop:=RSl 3 RQn
theorem Kq {α:Type} {R:World→List Value→α→Prop} {sz base n:Nat} {e:TypeId} {w:World} {v:Value} {xs:List Value} {l:List α} (h:w.ownsRow base e sz v n xs) (hl:l.length=n)
  (hR:∀ (i:Nat) (hi:i<l.length),R w ((xs.drop (i*sz)).take sz) l[i]):RSl sz R w [v] l:=by
 obtain ⟨A,c,rfl,h1,h2,h3,-⟩:=Yy h
 refine ⟨A,n,c,rfl,hl,h1,h2,fun i hi=>?_⟩
 obtain ⟨ad,rfl,hc⟩:=h3.2 (by omega)
 have hlt:(i+1)*sz≤xs.length:=by rw [h3.1];exact Nat.mul_le_mul_right _ (by omega)
 rw [Nat.succ_mul] at hlt
 refine ⟨ad,(xs.drop (i*sz)).take sz,rfl,by rw [List.length_take,List.length_drop];omega,fun j hj=>?_,hR i hi⟩
 rw [List.getElem?_take,if_pos hj,List.getElem?_drop,hc _ _ (List.getElem?_eq_getElem (by omega)),List.getElem?_eq_getElem (by omega)]
theorem Kk {w:World} {A:Option Addr} {qs:List Qn} (h:RdL w 3 RQn A qs) {i:Nat} (hi:i<qs.length):∃ b q A1 n1 c1 lq aq qe,qs[i]?=some qe∧A=some ⟨b,q,none⟩∧w.cell? ⟨b,q+i*3,none⟩=some (.int .u64 ((lq:Nat):Int)) ∧
  w.cell? ⟨b,q+i*3+1,none⟩=some (.slice A1 n1 c1)∧w.cell? ⟨b,q+i*3+2,none⟩=some (.int .u64 ((aq:Nat):Int))∧RWd w [.slice A1 n1 c1] qe.el∧b<w.heap.size∧(qe.lab=lq∧qe.ans=aq∧lq<18446744073709551616∧aq<18446744073709551616):=by
 obtain ⟨b,q,rfl⟩:=h.base (by omega) (by omega)
 obtain ⟨cs,-,hc,s,rfl,hs,hb1,hb2⟩:=h.get hi
 have c0:=hc 0 (by omega)
 have c1:=hc 1 (by omega)
 have c2:=hc 2 (by omega)
 obtain ⟨A1,n1,c1',hs1,-⟩:=id hs
 injection hs1 with hs1 _
 subst hs1
 have hbl:=World.block_lt_of_cell? _ _ c1
 exact ⟨b,q,A1,n1,c1',qs[i].lab,qs[i].ans,qs[i],List.getElem?_eq_getElem hi,rfl,c0,c1,c2,hs,hbl,rfl,rfl,hb1,hb2⟩
end Go.Proofs.YtdhhdplholkmdaaGreat
