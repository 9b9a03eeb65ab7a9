/- A part of the proof. No condition. -/
import Derived.Test.YtdhhdplholkmdaaGreatProg
import Derived.Test.YtdhhdplholkmdaaGreatPC43
import Derived.Test.YtdhhdplholkmdaaGreatPC36

namespace Go.Proofs.YtdhhdplholkmdaaGreat
open Go.RowKit
def xQ (L:YO) (j pub:Nat) (l:List Nat) (P:Yi):Bool:=VZ L j P&&decide (l.length=pub)&&l.all fun x=>decide (x<L.p)
def chC (L:YO) (j pub:Nat) (O:Orc) (dg:Nat) (l:List Nat) (P:Yi):ChR:=if xQ L j pub l P then Yy (Yq O L dg l) L.p P.root else ⟨0,0,0⟩
def chP (L:YO) (j pub:Nat) (O:Orc) (dg:Nat) (l:List Nat) (P:Yi):List Nat:=if xQ L j pub l P then XJ (Z7 (Yq O L dg l) P.root) (P.code++P.linear++P.quad) L.n L.queries else []
def chO (L:YO) (j pub:Nat) (O:Orc) (dg:Nat) (l:List Nat) (P:Yi):Orc:=if xQ L j pub l P then Ud (Z7 (Yq O L dg l) P.root) (P.code++P.linear++P.quad) L.queries else O
theorem zDi (L:YO) (j pub:Nat) (l:List Nat) (P:Yi):(VZ L j P&&Yv l (pub:Int) L.p)=xQ L j pub l P:=by
 unfold xQ Yv
 rw [Bool.and_assoc,Bool.and_comm (l.all _),show ((l.length:Int) == (pub:Int))=decide (l.length=pub) from Bool.eq_iff_iff.2 (by simp;omega)]
theorem JN (s:Tr) (all:List Nat) (n q:Nat) (h:q≤n):(XJ s all n q).length=q:=jo _ _ _ _ _ h
theorem xH {s:Tr} {k c:Nat} (h:Ue s k c) (i:Nat):YX (YN s i).O (k+i):=(JH h i).o.le
theorem chO_le {O:Orc} {k:Nat} (h:KY O k) (L:YO) (hL:Y7 L) (j pub dg:Nat) (l:List Nat) (P:Yi):YX (chO L j pub O dg l P) (k+1000):=by
 unfold chO
 split
 ·rw [jh]
  have q2:=hL.q2
  exact Yn (xH (Jg (KE (zz h L dg l) P.root) 3 _) L.queries) (by omega)
 ·exact Yn h.le (by omega)
theorem K9 {w:World} {g:Nat} {O:Orc} {F K:Nat→Prop} (h:OrcAt w g O F) (L:YO) (j:Nat) (hL:Y7 L) (hn:L.n=2^j) (hj:j≤10) (p:Nat) (pub:Nat) (vars:Int) (T B:Option Addr) (R cT m d:Nat) (rows:List Yb) (l:List Nat) (P:Yi) (S:PS)
  (hr:RSl 3 XI w [.slice T R cT] rows) (hD:U0 p (pub:Int) vars rows) (hok:ZZ p (pub:Int) vars rows=true) (hl:RWd w [.slice B m d] l) (hP:Hd K w fun u=>Js u P S) (hK:∀ b,K b→¬F b) (hO:YX O 700000) (hm2:m≤90000) :
  Calls Tryz.prog 16 #[.pointer (some ⟨g,0,none⟩), .agg (ZH L),Yz p (pub:Int) vars (.slice T R cT), .slice B m d, .agg (Y3 P S)] w fun e w' =>
   ∃ A' dd F',e= .returned (.tuple #[.agg #[.int .u64 ((chC L j pub O (Ye p (pub:Int) vars rows) l P).al:Int), .int .u64 ((chC L j pub O (Ye p (pub:Int) vars rows) l P).rh:Int), .int .u64 ((chC L j pub O (Ye p (pub:Int) vars rows) l P).be:Int)], .slice A' (chP L j pub O (Ye p (pub:Int) vars rows) l P).length dd]) ∧
    OrcAt w' g (chO L j pub O (Ye p (pub:Int) vars rows) l P) F'∧Moved F F' w w' ∧
    w'.ownsRow w.heap.size 3 1 (.slice A' (chP L j pub O (Ye p (pub:Int) vars rows) l P).length dd) (chP L j pub O (Ye p (pub:Int) vars rows) l P).length (I64 (Xe (chP L j pub O (Ye p (pub:Int) vars rows) l P))):=by
 have hml:=(YY hl).1
 cases hc:xQ L j pub l P
 ·have h1:chC L j pub O (Ye p (pub:Int) vars rows) l P=⟨0,0,0⟩:=by unfold chC;rw [hc];rfl
  have h2:chP L j pub O (Ye p (pub:Int) vars rows) l P=[]:=by unfold chP;rw [hc];rfl
  have h3:chO L j pub O (Ye p (pub:Int) vars rows) l P=O:=by unfold chO;rw [hc];rfl
  rw [h1,h2,h3]
  refine (Gh g L j hL hn hj p pub vars T B R cT m d l P S w hl (UD hP) (by rw [hml];exact hc)).mono fun e w' ⟨he,hb⟩=>?_
  exact ⟨none,0,F,he,h.below hb,Zp hb,⟨rfl, .inl ⟨rfl,rfl⟩⟩⟩
 ·have h1:chC L j pub O (Ye p (pub:Int) vars rows) l P=Yy (Yq O L (Ye p (pub:Int) vars rows) l) L.p P.root:=by unfold chC;rw [hc];rfl
  have h2:chP L j pub O (Ye p (pub:Int) vars rows) l P=XJ (Z7 (Yq O L (Ye p (pub:Int) vars rows) l) P.root) (P.code++P.linear++P.quad) L.n L.queries:=by unfold chP;rw [hc];rfl
  have h3:chO L j pub O (Ye p (pub:Int) vars rows) l P=Ud (Z7 (Yq O L (Ye p (pub:Int) vars rows) l) P.root) (P.code++P.linear++P.quad) L.queries:=by unfold chO;rw [hc];rfl
  unfold xQ at hc
  simp only [Bool.and_eq_true,decide_eq_true_eq] at hc
  have hlen:(chP L j pub O (Ye p (pub:Int) vars rows) l P).length=L.queries:=by rw [h2];exact JN _ _ _ _ (by have:=hL.nk;have:=hL.k;omega)
  rw [hlen,h1,h2,h3]
  refine (GL h L j hL hn hj (Z5 hL.p).2 p pub vars T B R cT m d rows l P S hr hD hok hl hP hK hO hc.1.1 (by omega) hm2 hc.2 (GK hL hc.1.1) (UD hP).root).mono fun e w' ⟨gr,dd,F',he,ho,hm,hw,_⟩=>?_
  exact ⟨some ⟨gr,0,none⟩,dd,F',he,ho,hm,hw⟩
theorem Ga {K:Nat→Prop} {O:Orc} {k:Nat} (h:KY O k) (hk:k≤700000) (L:YO) (j:Nat) (hL:Y7 L) (hn:L.n=2^j) (hj:j≤10) (p pub:Nat) (vars:Int) (T B A:Option Addr) (R cT m d n c:Nat) (rows:List Yb) (l:List Nat) (P:Yi) (S:PS) (w:World)
  (hr:RSl 3 XI w [.slice T R cT] rows) (hD:U0 p (pub:Int) vars rows) (hok:ZZ p (pub:Int) vars rows=true) (hq:Hd K w fun u=>RQs u [.slice A n c] O.qs)
  (hl:RWd w [.slice B m d] l) (hP:Js w P S) (hm2:m≤90000) :
  Calls Tryz.prog 18 #[.agg (Yg O (.slice A n c)), .agg (ZH L),Yz p (pub:Int) vars (.slice T R cT), .slice B m d, .agg (Y3 P S)] w fun e w'=>∃ Av cv A' n' c',e= .returned (.tuple #[.agg #[.int .u64 ((chC L j pub O (Ye p (pub:Int) vars rows) l P).al:Int), .int .u64 ((chC L j pub O (Ye p (pub:Int) vars rows) l P).rh:Int), .int .u64 ((chC L j pub O (Ye p (pub:Int) vars rows) l P).be:Int)], .slice Av (chP L j pub O (Ye p (pub:Int) vars rows) l P).length cv,
    .agg (Yg (chO L j pub O (Ye p (pub:Int) vars rows) l P) (.slice A' n' c'))]) ∧
   w'.ownsRow w.heap.size 3 1 (.slice Av (chP L j pub O (Ye p (pub:Int) vars rows) l P).length cv) (chP L j pub O (Ye p (pub:Int) vars rows) l P).length (I64 (Xe (chP L j pub O (Ye p (pub:Int) vars rows) l P))) ∧
   Hd (fun b=>K b∨w.heap.size≤b) w' (fun u=>RQs u [.slice A' n' c'] (chO L j pub O (Ye p (pub:Int) vars rows) l P).qs)∧Below w.heap.size w w':=by
 have hml:=(YY hl).1
 have hcr:=zDi L j pub l P
 cases hc:xQ L j pub l P
 ·have h1:chC L j pub O (Ye p (pub:Int) vars rows) l P=⟨0,0,0⟩:=by unfold chC;rw [hc];rfl
  have h2:chP L j pub O (Ye p (pub:Int) vars rows) l P=[]:=by unfold chP;rw [hc];rfl
  have h3:chO L j pub O (Ye p (pub:Int) vars rows) l P=O:=by unfold chO;rw [hc];rfl
  rw [h1,h2,h3]
  refine (K7 O L j hL hn hj p pub vars T B A R cT m d n c l P S w hl hP (by rw [hcr];exact hc)).mono fun e w' ⟨he,hb⟩=>?_
  exact ⟨none,0,A,n,c,he,⟨rfl, .inl ⟨rfl,rfl⟩⟩,YT (Zw hq (Zz hb)) fun b hb=>.inl hb,hb⟩
 ·have h1:chC L j pub O (Ye p (pub:Int) vars rows) l P=Yy (Yq O L (Ye p (pub:Int) vars rows) l) L.p P.root:=by unfold chC;rw [hc];rfl
  have h2:chP L j pub O (Ye p (pub:Int) vars rows) l P=XJ (Z7 (Yq O L (Ye p (pub:Int) vars rows) l) P.root) (P.code++P.linear++P.quad) L.n L.queries:=by unfold chP;rw [hc];rfl
  have h3:chO L j pub O (Ye p (pub:Int) vars rows) l P=Ud (Z7 (Yq O L (Ye p (pub:Int) vars rows) l) P.root) (P.code++P.linear++P.quad) L.queries:=by unfold chO;rw [hc];rfl
  have hc2:=hc
  rw [←hcr,Bool.and_eq_true] at hc2
  have hlen:(chP L j pub O (Ye p (pub:Int) vars rows) l P).length=L.queries:=by rw [h2];exact JN _ _ _ _ (by have:=hL.nk;have:=hL.k;omega)
  rw [hlen,h1,h2,h3]
  refine (Gq h hk L j hL hn hj p pub vars T B A R cT m d n c rows l P S w hr hD hok hq hl hP hc2.1 hc2.2 (by omega)).mono fun e w' ⟨v,A',n',c',he,hw,hd,hb⟩=>?_
  obtain ⟨Av,cv,rfl,-⟩:=Yd hw
  exact ⟨Av,cv,A',n',c',he,hw,hd,hb⟩
end Go.Proofs.YtdhhdplholkmdaaGreat
