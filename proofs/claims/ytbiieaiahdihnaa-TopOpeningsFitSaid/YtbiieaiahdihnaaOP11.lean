/- A part of the proof. No condition. -/
import Derived.BigQuiet
import Derived.Deep.QuietTactic
import Derived.Test.YtbiieaiahdihnaaProg
import Derived.Test.YtbiieaiahdihnaaOP2
import Derived.Test.YtbiieaiahdihnaaOP4
import Derived.Test.YtbiieaiahdihnaaOP5
import Derived.Test.YtbiieaiahdihnaaOP7

namespace Go.Proofs.Ytbiieaiahdihnaa
open Go.RowKit
theorem RLin.at_ {w:World} {b q:Nat} {l:List (Int × Nat)} (h:RdL w 2 xz (some ⟨b,q,none⟩) l) {i:Nat} (hi:i<l.length) :
  w.cell? ⟨b,q+i*2,none⟩=some (.int .i64 (l.getD i (0,0)).1)∧w.cell? ⟨b,q+i*2+1,none⟩=some (.int .u64 ((l.getD i (0,0)).2:Int)):=by
 obtain ⟨cs,hl,hc,rfl,-,-⟩:=h.get hi
 have h0:=hc 0 (by omega)
 have h1:=hc 1 (by omega)
 simp [hi] at h0 h1 ⊢
 exact ⟨h0,h1⟩
theorem RWd.at_ {w:World} {A:Option Addr} {l:List Nat} (h:Rd w 1 A l.length (U64 l)) {i:Nat} (hi:i<l.length):∃ ad,A=some ad∧w.cell? (ad.add i)=some (.int .u64 ((l.getD i 0:Nat):Int)):=by
 obtain ⟨ad,u,rfl,hu,hc⟩:=h.at_ hi
 rw [Ga hi] at hu
 injection hu with hu
 subst hu
 exact ⟨ad,rfl,by simpa [hi] using hc⟩
theorem GZ {w:World} {A:Option Addr} {n:Nat} {xs:List Value} (h:Rd w 1 A n xs) (hn:0<n):∃ b q,A=some ⟨b,q,none⟩∧b<w.heap.size∧∀ k,k<n→w.cell? ⟨b,q+k,none⟩=xs[k]?:=by
 obtain ⟨ad,rfl,hc⟩:=h.2 hn
 have hl:=h.len1
 have h0:=hc 0 _ (List.getElem?_eq_getElem (by omega))
 obtain ⟨b,q,rfl⟩:∃ b q,ad=⟨b,q,none⟩:=by
  have hs:=World.cell?_spot h0
  rw [JB] at hs
  obtain ⟨b,q,s⟩:=ad
  simp at hs
  subst hs
  exact ⟨b,q,rfl⟩
 refine ⟨b,q,rfl,World.block_lt_of_cell? _ _ (by rw [JB] at h0;exact h0),fun k hk=>?_⟩
 rw [←X0,hc k _ (List.getElem?_eq_getElem (by omega)),List.getElem?_eq_getElem (by omega)]
theorem ZO {w:World} {A:Option Addr} {n c:Nat} {l:List Nat} (h:RWd w [.slice A n c] l):n=l.length∧n≤c∧c≤maxLen∧(∀ x∈l,x<18446744073709551616)∧Rd w 1 A n (U64 l):=by
 obtain ⟨A',n',c',he,h1,h2,h3,h4⟩:=h
 simp at he
 obtain ⟨rfl,rfl,rfl⟩:=he
 have:=h3.len1
 rw [UD] at this
 exact ⟨this.symm,h1,h2,h4,h3⟩
theorem ZN {w:World} {A:Option Addr} {l:List Nat} (h:Rd w 1 A l.length (U64 l)) {j:Nat} (hj:j<l.length):∃ b q,A=some ⟨b,q,none⟩∧b<w.heap.size∧w.cell? ⟨b,q+j,none⟩=some (.int .u64 ((l.getD j 0:Nat):Int)):=by
 obtain ⟨b,q,e,hb,hc⟩:=GZ h (by omega)
 refine ⟨b,q,e,hb,?_⟩
 rw [hc j hj,Ga hj,List.getD_eq_getElem?_getD,List.getElem?_eq_getElem hj]
 rfl
theorem YY {n c:Nat} (h1:n≤c) (h2:c≤maxLen):(n:Int)≤9223372036854775807:=by
 simp [maxLen] at h2
 omega
theorem Xb {l:List Nat} {B:Nat} (h:∀ x∈l,x<B) {k:Nat} (hk:k<l.length):l.getD k 0<B:=by
 rw [List.getD_eq_getElem?_getD,List.getElem?_eq_getElem hk]
 exact h _ (List.getElem_mem _)
theorem VV (l:List Nat) (k:Nat) (h:k<l.length):l.take (k+1)=l.take k++[l.getD k 0]:=by
 rw [List.take_succ_eq_append_getElem h,List.getD_eq_getElem?_getD,List.getElem?_eq_getElem h]
 rfl
theorem xe {β:Type} (f:β→Nat→β) (b:β) (l:List Nat) (k:Nat) (h:k<l.length):(l.take (k+1)).foldl f b=f ((l.take k).foldl f b) (l.getD k 0):=by
 rw [VV l k h,List.foldl_append]
 rfl
theorem yj {w:World} {base:Nat} {e:TypeId} {A:Option Addr} {c n:Nat} {l:List Nat} (h:w.ownsRow base e 1 (.slice A n c) n (U64 l)) (hl:∀ x∈l,x<18446744073709551616):RWd w [.slice A n c] l:=by
 obtain ⟨A',c',he,h1,h2,h3,-⟩:=ZY h
 simp at he
 obtain ⟨rfl,rfl⟩:=he
 exact ⟨A,n,c,rfl,h1,h2,h3,hl⟩
theorem VH {W W':World} {B:Nat} {e:TypeId} {size:Nat} {v:Value} {n:Nat} {xs:List Value} (h:W.ownsRow B e size v n xs) (hg:W.grownBy W' v.ownBlock) (hB:B≤W.heap.size):Below B W W' :=
 ZW hg B hB fun g e=>(h.lt g e).1
theorem VX {w:World} {B m:Nat} {t:TypeId} {v:Value} {a b c:List Nat} (h:w.ownsRow B t 1 v m (U64 a++U64 b)) (e:a++b=c):w.ownsRow B t 1 v m (U64 c):=by
 rw [←e,Gc]
 exact h
theorem J3 {w:World} {g:Nat} {t:TypeId} {l:List Nat} (h:Blk w g t (U64 l).toArray) (hl:∀ x∈l,x<18446744073709551616) (hm:l.length≤maxLen):RWd w [.slice (some ⟨g,0,none⟩) l.length l.length] l:=by
 refine ⟨_,_,_,rfl,Nat.le_refl _,hm,⟨by rw [UD,Nat.mul_one],fun _=>⟨_,rfl,fun j u hu=>?_⟩⟩,hl⟩
 rw [X0,Nat.zero_add,h.cell]
 simpa using hu
end Go.Proofs.Ytbiieaiahdihnaa
